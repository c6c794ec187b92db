/-
  Contracts of Go functions (printed). Conditions: none.
-/
import Derived.KernelRfl
import Derived.Test.YtkopaeklihhdlaaGreatCMDox63a8b8
import Derived.Test.YtkopaeklihhdlaaGreatCE14oxd152c4
import Derived.Test.YtkopaeklihhdlaaGreatCH1oxa5d4f8
set_option linter.unusedSimpArgs false
set_option linter.unusedVariables false
namespace Go.Proofs.YtkopaeklihhdlaaGreat
namespace Abs
open Go Go.Proofs
set_option maxRecDepth 100000
set_option maxHeartbeats 40000000
abbrev qbi (qdw : Val → Str → (List Int) → Option Val) : Prop := ∀ (p0 : Val) (p1 : Str) (p2 : List Int) (r : Val), qdw p0 p1 p2 = some r → aA Tryz.prog 29 [.agg [.int .i64 p0.kind, .int .i64 p0.n, .str p0.name, .slice (List.map ah p0.kids) .shared], .str p1, .slice (List.map encI p2) .shared] [] (.agg [.int .i64 r.kind, .int .i64 r.n, .str r.name, .slice (List.map ah r.kids) .shared]) []
theorem JV (n : Nat) (qdw : Val → Str → (List Int) → Option Val) (qb3 : qbi qdw) (p0 : Val) (p1 : Str) (p2 : List Int) (r : Val) (h : qN n qdw p0 p1 p2 = some r) : aA Tryz.prog 29 [.agg [.int .i64 p0.kind, .int .i64 p0.n, .str p0.name, .slice (List.map ah p0.kids) .shared], .str p1, .slice (List.map encI p2) .shared] [] (.agg [.int .i64 r.kind, .int .i64 r.n, .str r.name, .slice (List.map ah r.kids) .shared]) [] := by
 unfold qN at h
 refine aC true Tryz.func29 rfl (by rw [Tryz.ntmps29]; exact Nat.le_of_ble_eq_true rfl) fun Q hQ t ht => ?_
 conv at ht => whnf
 subst ht
 refine .q fun K1 k1 => ?_
 refine rg 2 ?_
 conv => whnf
 refine k1 _ _ ?_
 refine .q fun K2 k2 => ?_
 obtain ⟨s1, hj1, h⟩ := ob h
 have hR1 : ∀ t9 h9, Le 0 t9 h9 (.unk :: (.str p1 :: (.slice (List.map encI p2) .shared :: (.ptr 0 0 :: (u2 (.ptr 1 0 :: (u32 (u16 (u4 (u2 [])))))))))) [.box [.int .i64 p0.kind, .int .i64 s1, .str p0.name, .slice (List.map ah p0.kids) .shared], .box [.int .i64 0, .int .i64 0, .str ([] : Str), .slice (List.map ah ([] : List Val)) .nils]] → K2 t9 h9 := by
  intro t9 h9 hw
  refine k2 _ _ (AW.le hw ?_)
  clear hw
  refine .q fun K3 k3 => ?_
  refine rg 0 ?_
  conv => whnf
  refine k3 _ _ ?_
  refine .q fun K4 k4 => ?_
  refine .q fun K5 k5 => ?_
  refine rg 0 ?_
  conv => whnf
  refine aQ (l := p0.kids) (f := ah) ?_
  conv => whnf
  refine k5 _ _ ?_
  refine .block ?_
  obtain ⟨o1, ho1, h⟩ := ob h
  have hR2 : ∀ s3 : List Val, o1 = .nx s3 → ∀ t9 h9, Le 0 t9 h9 (u2 (.unk :: (.ptr 0 0 :: (u2 (.ptr 1 0 :: (.slice (List.map ah s3) (.tip 2 4) :: (u32 (u16 (u4 (.unk :: [])))))))))) [.box [.int .i64 p0.kind, .int .i64 s1, .str p0.name, .slice (List.map ah p0.kids) .shared], .box [.int .i64 0, .int .i64 0, .str ([] : Str), .slice (List.map ah ([] : List Val)) .nils], .tip (List.length s3 * 4)] → K4 t9 h9 := by
   intro s3 ho
   subst ho
   dsimp only [LR.el] at h
   intro t9 h9 hw
   refine k4 _ _ (AW.le hw ?_)
   refine .q fun K6 k6 => ?_
   obtain ⟨s4, hj2, h⟩ := ob h
   have hR3 : ∀ t9 h9, Le 0 t9 h9 (u2 (.unk :: (.ptr 0 0 :: (u2 (.ptr 1 0 :: (.slice (List.map ah s4) .shared :: (u32 (u16 (u4 (.unk :: [])))))))))) [.box [.int .i64 p0.kind, .int .i64 s1, .str p0.name, .slice (List.map ah p0.kids) .shared], .box [.int .i64 0, .int .i64 0, .str ([] : Str), .slice (List.map ah ([] : List Val)) .nils]] → K6 t9 h9 := by
    intro t9 h9 hw
    refine k6 _ _ (AW.le hw ?_)
    clear hw
    refine .q fun K7 k7 => ?_
    refine rg 0 ?_
    conv => whnf
    obtain ⟨x1, hx1, h⟩ := ob h
    refine aB (Dn _ _ _ hx1) Xa (.cons (.same _) .nil) (fun g => by simp) (fun g => by simp) ?_
    conv => whnf
    refine k7 _ _ ?_
    refine .q fun K8 k8 => ?_
    refine rg 0 ?_
    conv => whnf
    refine k8 _ _ ?_
    refine .ret ?_
    conv => whnf
    have e9 := sj h
    subst e9
    refine hQ _ _ _ (aG aJ (fun g => by simp) ?_)
    conv => whnf
    try rfl
   refine .q fun K9 k9 => ?_
   refine rg 0 ?_
   conv => whnf
   refine k9 _ _ ?_
   refine .aK rfl hj2 (fun hc1 hj2 => ?_) (fun hc1 hj2 => ?_)
   ·refine rg 0 ?_
    conv => whnf
    obtain ⟨x2, hx2, hj2⟩ := ob hj2
    refine aB (DY _ _ _ hx2) abl (.cons (.share _ _) .nil) (fun g => by simp) (fun g => by simp) ?_
    conv => whnf
    cases hj2
    exact hR3 _ _ (wk [some 0, some 1] (.u2 (.u (.c rfl (.u2 (.c rfl (.e aD (.u32 (.u16 (.u4 (.u .nil)))))))))) (.b rfl (.c rfl (.c rfl (.c rfl (.e aD .nil)))) (.b rfl (.c rfl (.c rfl (.c rfl (.c rfl .nil)))) .nil)) rfl)
   refine .skip ?_
   conv => whnf
   cases hj2
   exact hR3 _ _ (wk [some 0, some 1] (.u2 (.u (.c rfl (.u2 (.c rfl (.e aD (.u32 (.u16 (.u4 (.u .nil)))))))))) (.b rfl (.c rfl (.c rfl (.c rfl (.e aD .nil)))) (.b rfl (.c rfl (.c rfl (.c rfl (.c rfl .nil)))) .nil)) rfl)
  refine .loopS (tu n qdw p0 p1 p2) (fun (s2 : (List Val) × Int) => (.unk :: (.str p1 :: (.slice (List.map encI p2) .shared :: (.ptr 0 0 :: (u2 (.ptr 1 0 :: (.slice (List.map ah s2.1) (.tip 2 4) :: (u16 (u8 (u4 (u2 (.slice (List.map ah p0.kids) .shared :: (.int .i64 (p0.kids.length : Int) :: (.int .i64 s2.2 :: (u16 (u4 []))))))))))))))))) (fun (s2 : (List Val) × Int) => [.box [.int .i64 p0.kind, .int .i64 s1, .str p0.name, .slice (List.map ah p0.kids) .shared], .box [.int .i64 0, .int .i64 0, .str ([] : Str), .slice (List.map ah ([] : List Val)) .nils], .tip (List.length s2.1 * 4)]) ho1 (fun _ => rfl) (wk [some 0, some 1, none] (.u (.c rfl (.e aR (.c rfl (.u2 (.c rfl (.cons (.nils _ _) (.u16 (.u8 (.u4 (.u2 (.e aD (.c rfl (.c rfl (.u16 (.u4 .nil)))))))))))))))) (.b rfl (.c rfl (.c rfl (.c rfl (.e aD .nil)))) (.b rfl (.c rfl (.c rfl (.c rfl (.c rfl .nil)))) (.w rfl .nil))) rfl) ?_
  intro n1 s2 hs1 KL1 hKL1
  unfold tu at hs1
  refine .q fun K10 k10 => ?_
  refine rg 0 ?_
  conv => whnf
  refine k10 _ _ ?_
  refine .q fun K11 k11 => ?_
  refine .aK rfl hs1 (fun hc2 hs1 => ?_) (fun hc2 hs1 => ?_)
  ·refine .skip ?_
   conv => whnf
   refine k11 _ _ ?_
   refine .q fun K12 k12 => ?_
   refine .block ?_
   refine .q fun K13 k13 => ?_
   refine rg 1 ?_
   conv => whnf
   obtain ⟨x3, hx3, hs1⟩ := ob hs1
   refine aU (l := p0.kids) (f := ah) (cs := [.int .i64 ((x3).kind), .int .i64 ((x3).n), .str ((x3).name), .slice (List.map ah ((x3).kids)) .shared]) hx3 (aX x3) rfl ?_
   conv => whnf
   refine k13 _ _ ?_
   refine rg 2 ?_
   conv => whnf
   obtain ⟨x4, hx4, hs1⟩ := ob hs1
   refine aB (qb3 _ _ _ _ hx4) ND (.cons (.same _) (.cons (.same _) (.cons (.same _) .nil))) (fun g => by simp) (fun g => by simp) ?_
   conv => whnf
   refine ⟨List.map ah ([x4]), by simp only [List.map_cons, List.map_nil, aX]; try rfl, ?_⟩
   conv => whnf
   obtain ⟨x5, hx5, hs1⟩ := ob hs1
   refine gq (l := s2.1) (ys := [x4]) (f := ah) hx5 lY rfl rfl rfl ?_
   conv => whnf
   refine k12 _ _ ?_
   refine .know 40 0 fun hv1 => ?_
   refine .know 38 0 fun hv2 => ?_
   refine rg 0 ?_
   conv => whnf
   refine ⟨(s2.2 + 1), by have := bY hv1; have := gI hv2; have h8 := of_decide_eq_true hc2; exact bB (by omega) (by omega), ?_⟩
   conv => whnf
   exact hKL1 _ _ _ hs1 (wk [some 0, some 1, some 5] (.u (.c rfl (.e aR (.c rfl (.u2 (.c rfl (.cons (.dz (aD _ _) rfl) (.u16 (.u8 (.u4 (.u2 (.e aD (.c rfl (.c rfl (.u16 (.u4 .nil)))))))))))))))) (.b rfl (.c rfl (.c rfl (.c rfl (.e aD .nil)))) (.b rfl (.c rfl (.c rfl (.c rfl (.c rfl .nil)))) (.t rfl .nil))) rfl)
  refine .exit ?_
  conv => whnf
  exact hR2 _ (sj hs1).symm _ _ (li (.u2 (.u (.s (.u2 (.s (.s (.u16 (.u16 (.u16 (.u4 (.u .n))))))))))))
 refine .q fun K14 k14 => ?_
 obtain ⟨s5, hj3, hj1⟩ := ob hj1
 have hR4 : ∀ t9 h9, Le 0 t9 h9 (.unk :: (.str p1 :: (.slice (List.map encI p2) .shared :: (.ptr 0 0 :: (u2 (.ptr 1 0 :: (u16 (u4 (u2 (.unk :: (.bool s5 :: (u16 (u8 (u4 (u2 []))))))))))))))) [.box [.int .i64 p0.kind, .int .i64 p0.n, .str p0.name, .slice (List.map ah p0.kids) .shared], .box [.int .i64 0, .int .i64 0, .str ([] : Str), .slice (List.map ah ([] : List Val)) .nils]] → K14 t9 h9 := by
  intro t9 h9 hw
  refine k14 _ _ (AW.le hw ?_)
  clear hw
  refine .aK rfl hj1 (fun hc3 hj1 => ?_) (fun hc3 hj1 => ?_)
  ·refine rg 0 ?_
   conv => whnf
   obtain ⟨x6, hx6, hj1⟩ := ob hj1
   refine aU (l := p2) (f := encI) (cs := [.int .i64 (x6)]) hx6 (rfl) rfl ?_
   conv => whnf
   cases hj1
   exact hR1 _ _ (li (.u (.s (.s (.s (.u2 (.s (.u16 (.u16 (.u16 (.u4 (.u2 .n))))))))))))
  refine .skip ?_
  conv => whnf
  cases hj1
  exact hR1 _ _ (li (.u (.s (.s (.s (.u2 (.s (.u16 (.u16 (.u16 (.u4 (.u2 .n))))))))))))
 refine rg 0 ?_
 conv => whnf
 refine aI hj3 (fun hc4 hj3 => ?_) (fun hc4 hj3 => ?_)
 ·conv => whnf
  refine aI hj3 (fun hc5 hj3 => ?_) (fun hc5 hj3 => ?_)
  ·conv => whnf
   refine aI hj3 (fun hc6 hj3 => ?_) (fun hc6 hj3 => ?_)
   ·conv => whnf
    refine aQ (l := p2) (f := encI) ?_
    conv => whnf
    cases hj3
    exact hR4 _ _ (li (.u (.s (.s (.s (.u2 (.s (.u16 (.u4 (.u2 (.u (.s (.u16 (.u8 (.u4 (.u2 .n))))))))))))))))
   conv => whnf
   cases hj3
   exact hR4 _ _ (li (.u (.s (.s (.s (.u2 (.s (.u16 (.u4 (.u2 (.u (.s (.u16 (.u8 (.u4 (.u2 .n))))))))))))))))
  conv => whnf
  cases hj3
  exact hR4 _ _ (li (.u (.s (.s (.s (.u2 (.s (.u16 (.u4 (.u2 (.u (.s (.u16 (.u8 (.u4 (.u2 .n))))))))))))))))
 conv => whnf
 cases hj3
 exact hR4 _ _ (li (.u (.s (.s (.s (.u2 (.s (.u16 (.u4 (.u2 (.u (.s (.u16 (.u8 (.u4 (.u2 .n))))))))))))))))
theorem Uo (n : Nat) : qbi (iY n) := by
 induction n with
 | zero => exact (fun p0 p1 p2 r h => by unfold iY at h; cases h)
 | succ n ih =>
  exact (fun p0 p1 p2 r h => JV n _ ih p0 p1 p2 r (by unfold iY at h; exact h))
theorem A9 (n : Nat) : qbi (iY n) := (Uo n)
theorem Oz (n : Nat) (p0 : S_api_World) (p1 : Str) (p2 : List Int) (r : S_api_World × Int) (h : uD n p0 p1 p2 = some r) : aA Tryz.prog 27 [.agg [.slice (List.map aj p0.env.carriers) .shared, .slice (List.map ak p0.env.names) .shared, .slice (List.map encI p0.sizes) .shared, .slice (List.map ah p0.values) .shared], .str p1, .slice (List.map encI p2) .shared] [] (.tup [.agg [.slice (List.map aj r.1.env.carriers) .shared, .slice (List.map ak r.1.env.names) .shared, .slice (List.map encI r.1.sizes) .shared, .slice (List.map ah r.1.values) .shared], .int .i64 r.2]) [] := by
 unfold uD at h
 refine aC true Tryz.func27 rfl (by rw [Tryz.ntmps27]; exact Nat.le_of_ble_eq_true rfl) fun Q hQ t ht => ?_
 conv at ht => whnf
 subst ht
 refine .q fun K1 k1 => ?_
 refine rg 2 ?_
 conv => whnf
 refine k1 _ _ ?_
 refine .q fun K2 k2 => ?_
 refine .q fun K3 k3 => ?_
 refine rg 0 ?_
 conv => whnf
 obtain ⟨x1, hx1, h⟩ := ob h
 refine aB (oP _ _ _ hx1) NW (.cons (.same _) .nil) (fun g => by simp) (fun g => rfl) ?_
 conv => whnf
 refine k3 _ _ ?_
 refine .aK rfl h (fun hc1 h => ?_) (fun hc1 h => ?_)
 ·refine .q fun K4 k4 => ?_
  refine rg 0 ?_
  conv => whnf
  refine k4 _ _ ?_
  refine .ret ?_
  conv => whnf
  have e9 := sj h
  subst e9
  refine hQ _ _ _ (aG aJ (fun g => by simp) ?_)
  conv => whnf
  try rfl
 refine .skip ?_
 conv => whnf
 refine k2 _ _ ?_
 refine .q fun K5 k5 => ?_
 refine rg 0 ?_
 conv => whnf
 obtain ⟨x2, hx2, h⟩ := ob h
 refine aB (z8 _ _ _ _ hx2) Va (.cons (.same _) (.cons (.same _) .nil)) (fun g => by simp) (fun g => rfl) ?_
 conv => whnf
 refine k5 _ _ ?_
 refine .q fun K6 k6 => ?_
 refine .block ?_
 refine .q fun K7 k7 => ?_
 refine rg 0 ?_
 conv => whnf
 refine k7 _ _ ?_
 refine .aK rfl h (fun hc2 h => ?_) (fun hc2 h => ?_)
 ·refine .q fun K8 k8 => ?_
  refine rg 0 ?_
  conv => whnf
  refine k8 _ _ ?_
  refine .ret ?_
  conv => whnf
  have e9 := sj h
  subst e9
  refine hQ _ _ _ (aG aJ (fun g => by simp) ?_)
  conv => whnf
  try rfl
 refine .q fun K9 k9 => ?_
 refine rg 0 ?_
 conv => whnf
 obtain ⟨x3, hx3, h⟩ := ob h
 refine aU (l := p0.env.carriers) (f := aj) (cs := [.str ((x3).name), .slice (List.map encS ((x3).elems)) .shared]) hx3 (rfl) rfl ?_
 conv => whnf
 refine aQ (l := x3.elems) (f := encS) ?_
 conv => whnf
 refine k9 _ _ ?_
 refine .aK rfl h (fun hc3 h => ?_) (fun hc3 h => ?_)
 ·refine .q fun K10 k10 => ?_
  refine rg 0 ?_
  conv => whnf
  refine k10 _ _ ?_
  refine .ret ?_
  conv => whnf
  have e9 := sj h
  subst e9
  refine hQ _ _ _ (aG aJ (fun g => by simp) ?_)
  conv => whnf
  try rfl
 refine .skip ?_
 conv => whnf
 refine k6 _ _ ?_
 refine .q fun K11 k11 => ?_
 refine .ZG aJ dN 1 ?_
 conv => whnf
 obtain ⟨x4, hx4, h⟩ := ob h
 refine aU (l := p0.sizes) (f := encI) (cs := [.int .i64 (x4)]) hx4 (rfl) rfl ?_
 conv => whnf
 obtain ⟨x5, hx5, h⟩ := ob h
 refine mks (f := xY) hx5 rfl rfl (Nat.le_of_ble_eq_true rfl) ?_
 conv => whnf
 refine k11 _ _ ?_
 refine .q fun K12 k12 => ?_
 refine .q fun K13 k13 => ?_
 refine rg 0 ?_
 conv => whnf
 refine aQ (l := p2) (f := encI) ?_
 conv => whnf
 refine k13 _ _ ?_
 refine .block ?_
 obtain ⟨o1, ho1, h⟩ := ob h
 have hR1 : ∀ s2 : List Bool, o1 = .nx s2 → ∀ t9 h9, Le 0 t9 h9 (.unk :: (.str p1 :: (.slice (List.map encI p2) .shared :: (.ptr 0 0 :: (u2 (.ptr 1 0 :: (u2 (.psl 2 1 (List.length s2) :: (u64 (u16 (u4 (.unk :: [])))))))))))) [.box [.slice (List.map aj p0.env.carriers) .shared, .slice (List.map ak p0.env.names) .shared, .slice (List.map encI p0.sizes) .shared, .slice (List.map ah p0.values) .shared], .box [.slice (List.map aj ([] : List Carrier)) .nils, .slice (List.map ak ([] : List Decl)) .nils, .slice (List.map encI ([] : List Int)) .nils, .slice (List.map ah ([] : List Val)) .nils], .arr 1 (List.map xY s2)] → K12 t9 h9 := by
  intro s2 ho
  subst ho
  dsimp only [LR.el] at h
  intro t9 h9 hw
  refine k12 _ _ (AW.le hw ?_)
  refine .q fun K14 k14 => ?_
  refine .q fun K15 k15 => ?_
  refine rg 0 ?_
  conv => whnf
  refine aQ (l := p2) (f := encI) ?_
  conv => whnf
  refine k15 _ _ ?_
  refine .aK rfl h (fun hc4 h => ?_) (fun hc4 h => ?_)
  ·refine .q fun K16 k16 => ?_
   refine rg 0 ?_
   conv => whnf
   refine k16 _ _ ?_
   refine .ret ?_
   conv => whnf
   have e9 := sj h
   subst e9
   refine hQ _ _ _ (aG aJ (fun g => by simp) ?_)
   conv => whnf
   try rfl
  refine .skip ?_
  conv => whnf
  refine k14 _ _ ?_
  refine .q fun K17 k17 => ?_
  refine rg 2 ?_
  conv => whnf
  obtain ⟨x6, hx6, h⟩ := ob h
  refine bF [] [3] [.agg [.slice (List.map aj p0.env.carriers) .shared, .slice (List.map ak p0.env.names) .shared, .slice (List.map encI p0.sizes) .shared, .slice (List.map ah p0.values) .shared]] [.agg [.slice (List.map aj p0.env.carriers) .shared, .slice (List.map ak p0.env.names) .shared, .slice (List.map encI p0.sizes) .shared, .slice (List.map ah p0.values) .shared]] (yI _ _ _ hx6) abA rfl .nil (by simp; try decide) (.cons (.same _) .nil) (rn := .agg [.slice (List.map aj x6.1) .shared, .slice (List.map ak x6.2.1) .shared, .slice (List.map encI x6.2.2.1) .shared, .psl 3 4 (List.length x6.2.2.2)]) (by simp; try decide) (Hn := [.arr 4 (List.map ah x6.2.2.2)]) ((bJ (congrArg (AObj.arr _) (aD _ _)) rfl)) ?_
  conv => whnf
  refine k17 _ _ ?_
  refine .q fun K18 k18 => ?_
  refine .q fun K19 k19 => ?_
  refine rg 0 ?_
  conv => whnf
  refine k19 _ _ ?_
  refine .block ?_
  obtain ⟨o2, ho2, h⟩ := ob h
  have hR2 : ∀ s4 : List Val, o2 = .nx s4 → ∀ t9 h9, Le 0 t9 h9 (u4 (u2 (.ptr 0 0 :: (u4 (.unk :: (.ptr 1 0 :: (u64 (u16 (u2 []))))))))) [.box [.slice (List.map aj ([] : List Carrier)) .nils, .slice (List.map ak ([] : List Decl)) .nils, .slice (List.map encI ([] : List Int)) .nils, .slice (List.map ah ([] : List Val)) .nils], .box [.slice (List.map aj x6.1) .shared, .slice (List.map ak x6.2.1) .shared, .slice (List.map encI x6.2.2.1) .shared, .psl 2 4 (List.length s4)], .arr 4 (List.map ah s4)] → K18 t9 h9 := by
   intro s4 ho
   subst ho
   dsimp only [LR.el] at h
   intro t9 h9 hw
   refine k18 _ _ (AW.le hw ?_)
   refine .q fun K20 k20 => ?_
   refine rg 0 ?_
   conv => whnf
   refine k20 _ _ ?_
   refine .le (t' := (u4 (u2 (.ptr 0 0 :: (.int .i64 0 :: (u4 (.ptr 1 0 :: (u64 (u16 (.unk :: (.agg [.slice (List.map aj x6.1) .shared, .slice (List.map ak x6.2.1) .shared, .slice (List.map encI x6.2.2.1) .shared, .slice (List.map ah s4) .shared] :: []))))))))))) (h' := [.box [.slice (List.map aj x6.1) .shared, .slice (List.map ak x6.2.1) .shared, .slice (List.map encI x6.2.2.1) .shared, .slice (List.map ah s4) .shared], .box [.slice (List.map aj x6.1) .shared, .slice (List.map ak x6.2.1) .shared, .slice (List.map encI x6.2.2.1) .shared, .slice (List.map ah s4) .shared]]) (wk [some 0, some 1] (.u4 (.u2 (.c rfl (.c rfl (.u4 (.c rfl (.u64 (.u16 (.u (.cons (.agg' (.e au (.e aF (.e aR (.cons (.iJ aD (aN _) rfl rfl) .nil))))) .nil)))))))))) (.b rfl (.e au (.e aF (.e aR (.cons (.iJ aD (aN _) rfl rfl) .nil)))) (.b rfl (.e au (.e aF (.e aR (.cons (.iJ aD (aN _) rfl rfl) .nil)))) .nil)) rfl) ?_
   refine .ret ?_
   conv => whnf
   have e9 := sj h
   subst e9
   refine hQ _ _ _ (aG aJ (fun g => by simp) ?_)
   conv => whnf
   try rfl
  refine .loopS (o8 n p1 p2 x6) (fun (s3 : (List Val) × Int) => (.unk :: (.str p1 :: (.slice (List.map encI p2) .shared :: (u2 (.unk :: (.ptr 0 0 :: (u4 (.unk :: (.ptr 1 0 :: (u64 (.unk :: (.psl 2 4 (List.length s3.1) :: (.int .i64 (x6.2.2.2.length : Int) :: (.int .i64 s3.2 :: (u8 (u4 (u2 [])))))))))))))))))) (fun (s3 : (List Val) × Int) => [.box [.slice (List.map aj ([] : List Carrier)) .nils, .slice (List.map ak ([] : List Decl)) .nils, .slice (List.map encI ([] : List Int)) .nils, .slice (List.map ah ([] : List Val)) .nils], .box [.slice (List.map aj x6.1) .shared, .slice (List.map ak x6.2.1) .shared, .slice (List.map encI x6.2.2.1) .shared, .psl 2 4 (List.length s3.1)], .arr 4 (List.map ah s3.1)]) ho2 (fun _ => rfl) (wk [some 1, some 4, some 3] (.u (.c rfl (.e aR (.u2 (.u (.c rfl (.u4 (.u (.c rfl (.u64 (.u (.c rfl (.c rfl (.c rfl (.u8 (.u4 (.u2 .nil))))))))))))))))) (.b rfl (.c rfl (.c rfl (.c rfl (.c rfl .nil)))) (.b rfl (.e au (.e aF (.e aR (.c rfl .nil)))) (.old (.arr' aD (aN _)) .nil))) rfl) ?_
  intro n2 s3 hs2 KL2 hKL2
  unfold o8 at hs2
  refine .q fun K21 k21 => ?_
  refine rg 0 ?_
  conv => whnf
  refine k21 _ _ ?_
  refine .q fun K22 k22 => ?_
  refine .aK rfl hs2 (fun hc5 hs2 => ?_) (fun hc5 hs2 => ?_)
  ·refine .skip ?_
   conv => whnf
   refine k22 _ _ ?_
   refine .q fun K23 k23 => ?_
   refine .block ?_
   refine .q fun K24 k24 => ?_
   refine rg 1 ?_
   conv => whnf
   obtain ⟨x7, hx7, hs2⟩ := ob hs2
   refine yH (l := s3.1) (l0 := s3.1) hx7 (by simp [upd]) ?_
   conv => whnf
   refine QB (l := s3.1) (f := ah) (cs := [.int .i64 x7.kind, .int .i64 x7.n, .str x7.name, .slice (List.map ah x7.kids) .shared]) hx7 (aX x7) (by decide) ?_
   conv => whnf
   refine k24 _ _ ?_
   refine rg 0 ?_
   conv => whnf
   obtain ⟨x8, hx8, hs2⟩ := ob hs2
   refine aB (A9 _ _ _ _ _ hx8) ND (.cons (.same _) (.cons (.same _) (.cons (.same _) .nil))) (fun g => by simp) (fun g => by simp) ?_
   conv => whnf
   obtain ⟨x9, hx9, hs2⟩ := ob hs2
   refine yH (l := s3.1) (l0 := s3.1) hx9 (by simp [upd]) ?_
   conv => whnf
   refine QV (l := s3.1) (f := ah) (v := x8) hx9 ((aX _).symm) (by decide) ?_
   conv => whnf
   refine ⟨by kernel_rfl, ?_⟩
   conv => whnf
   refine k23 _ _ ?_
   refine .know 13 0 fun hv1 => ?_
   refine .know 79 0 fun hv2 => ?_
   refine rg 0 ?_
   conv => whnf
   refine ⟨(s3.2 + 1), by have := bY hv1; have := bY hv2; have h8 := of_decide_eq_true hc5; exact bB (by omega) (by omega), ?_⟩
   conv => whnf
   exact hKL2 _ _ _ hs2 (wk [some 0, some 1, some 2] (.u (.c rfl (.e aR (.u2 (.u (.c rfl (.u4 (.u (.c rfl (.u64 (.u (.cons (.same (y7 (by simp [upd]) rfl)) (.c rfl (.c rfl (.u8 (.u4 (.u2 .nil))))))))))))))))) (.b rfl (.c rfl (.c rfl (.c rfl (.c rfl .nil)))) (.b rfl (.e au (.e aF (.e aR (.cons (.same (y7 (by simp [upd]) rfl)) .nil)))) (.old (.arr' aD (aN _)) .nil))) rfl)
  refine .exit ?_
  conv => whnf
  exact hR2 _ (sj hs2).symm _ _ (wk [some 0, some 1, some 2] (.u4 (.u2 (.c rfl (.u4 (.u (.c rfl (.u64 (.u16 (.u2 .nil))))))))) (.b rfl (.c rfl (.c rfl (.c rfl (.c rfl .nil)))) (.b rfl (.e au (.e aF (.e aR (.c rfl .nil)))) (.old (.arr' aD (aN _)) .nil))) rfl)
 refine .loopS (mF n p2) (fun (s1 : (List Bool) × Int) => (.unk :: (.str p1 :: (.slice (List.map encI p2) .shared :: (.ptr 0 0 :: (u2 (.ptr 1 0 :: (u2 (.psl 2 1 (List.length s1.1) :: (u32 (u2 (.slice (List.map encI p2) .shared :: (.int .i64 (p2.length : Int) :: (.int .i64 s1.2 :: (u32 (u16 [])))))))))))))))) (fun (s1 : (List Bool) × Int) => [.box [.slice (List.map aj p0.env.carriers) .shared, .slice (List.map ak p0.env.names) .shared, .slice (List.map encI p0.sizes) .shared, .slice (List.map ah p0.values) .shared], .box [.slice (List.map aj ([] : List Carrier)) .nils, .slice (List.map ak ([] : List Decl)) .nils, .slice (List.map encI ([] : List Int)) .nils, .slice (List.map ah ([] : List Val)) .nils], .arr 1 (List.map xY s1.1)]) ho1 (fun _ => rfl) (wk [some 0, some 1, some 2] (.u (.c rfl (.e aR (.c rfl (.u2 (.c rfl (.u2 (.c rfl (.u32 (.u2 (.e aR (.c rfl (.c rfl (.u32 (.u16 .nil))))))))))))))) (.b rfl (.e au (.e aF (.e aR (.e aD .nil)))) (.b rfl (.c rfl (.c rfl (.c rfl (.c rfl .nil)))) (.old (.arr' G6 (aN _)) .nil))) rfl) ?_
 intro n1 s1 hs1 KL1 hKL1
 unfold mF at hs1
 refine .q fun K25 k25 => ?_
 refine rg 0 ?_
 conv => whnf
 refine k25 _ _ ?_
 refine .q fun K26 k26 => ?_
 refine .aK rfl hs1 (fun hc6 hs1 => ?_) (fun hc6 hs1 => ?_)
 ·refine .skip ?_
  conv => whnf
  refine k26 _ _ ?_
  refine .q fun K27 k27 => ?_
  refine .block ?_
  refine .q fun K28 k28 => ?_
  refine rg 0 ?_
  conv => whnf
  obtain ⟨x10, hx10, hs1⟩ := ob hs1
  refine aU (l := p2) (f := encI) (cs := [.int .i64 (x10)]) hx10 (rfl) rfl ?_
  conv => whnf
  refine k28 _ _ ?_
  refine .q fun K29 k29 => ?_
  refine .q fun K30 k30 => ?_
  obtain ⟨s5, hj1, hs1⟩ := ob hs1
  have hR3 : ∀ t9 h9, Le 0 t9 h9 (.unk :: (.str p1 :: (.slice (List.map encI p2) .shared :: (.ptr 0 0 :: (u2 (.ptr 1 0 :: (u2 (.psl 2 1 (List.length s1.1) :: (.unk :: (.int .i64 x10 :: (u32 (.slice (List.map encI p2) .shared :: (.int .i64 (p2.length : Int) :: (.int .i64 s1.2 :: (u16 (.bool s5 :: (u16 (u8 (u4 (u2 (.unk :: []))))))))))))))))))))) [.box [.slice (List.map aj p0.env.carriers) .shared, .slice (List.map ak p0.env.names) .shared, .slice (List.map encI p0.sizes) .shared, .slice (List.map ah p0.values) .shared], .box [.slice (List.map aj ([] : List Carrier)) .nils, .slice (List.map ak ([] : List Decl)) .nils, .slice (List.map encI ([] : List Int)) .nils, .slice (List.map ah ([] : List Val)) .nils], .arr 1 (List.map xY s1.1)] → K30 t9 h9 := by
   intro t9 h9 hw
   refine k30 _ _ (AW.le hw ?_)
   clear hw
   refine .aK rfl hs1 (fun hc7 hs1 => ?_) (fun hc7 hs1 => ?_)
   ·refine .q fun K31 k31 => ?_
    refine rg 0 ?_
    conv => whnf
    refine k31 _ _ ?_
    refine .ret ?_
    conv => whnf
    have e9 := sj hs1
    subst e9
    dsimp only [LR.el] at h
    have e9 := sj h
    subst e9
    refine hQ _ _ _ (aG aJ (fun g => by simp) ?_)
    conv => whnf
    try rfl
   refine .skip ?_
   conv => whnf
   refine k29 _ _ ?_
   refine rg 0 ?_
   conv => whnf
   obtain ⟨x11, hx11, hs1⟩ := ob hs1
   refine yH (l := s1.1) (l0 := s1.1) hx11 (by simp [upd]) ?_
   conv => whnf
   refine QV (l := s1.1) (f := xY) (v := true) hx11 (rfl) (by decide) ?_
   conv => whnf
   refine k27 _ _ ?_
   refine .know 46 0 fun hv3 => ?_
   refine .know 2 0 fun hv4 => ?_
   refine rg 0 ?_
   conv => whnf
   refine ⟨(s1.2 + 1), by have := bY hv3; have := gI hv4; have h8 := of_decide_eq_true hc6; exact bB (by omega) (by omega), ?_⟩
   conv => whnf
   exact hKL1 _ _ _ hs1 (wk [some 0, some 1, some 2] (.u (.c rfl (.e aR (.c rfl (.u2 (.c rfl (.u2 (.cons (.same (y7 (by simp [upd]) rfl)) (.u32 (.u2 (.e aR (.c rfl (.c rfl (.u32 (.u16 .nil))))))))))))))) (.b rfl (.e au (.e aF (.e aR (.e aD .nil)))) (.b rfl (.c rfl (.c rfl (.c rfl (.c rfl .nil)))) (.old (.arr' G6 (aN _)) .nil))) rfl)
  refine rg 0 ?_
  conv => whnf
  refine aI hj1 (fun hc8 hj1 => ?_) (fun hc8 hj1 => ?_)
  ·conv => whnf
   cases hj1
   exact hR3 _ _ (li (.u (.s (.s (.s (.u2 (.s (.u2 (.s (.u (.s (.u16 (.u16 (.s (.s (.s (.u16 (.s (.u16 (.u8 (.u4 (.u2 (.u .n)))))))))))))))))))))))
  conv => whnf
  refine aI hj1 (fun hc9 hj1 => ?_) (fun hc9 hj1 => ?_)
  ·conv => whnf
   cases hj1
   exact hR3 _ _ (li (.u (.s (.s (.s (.u2 (.s (.u2 (.s (.u (.s (.u16 (.u16 (.s (.s (.s (.u16 (.s (.u16 (.u8 (.u4 (.u2 (.u .n)))))))))))))))))))))))
  conv => whnf
  obtain ⟨x12, hx12, hj1⟩ := ob hj1
  refine yH (l := s1.1) (l0 := s1.1) hx12 (by simp [upd]) ?_
  conv => whnf
  refine QB (l := s1.1) (f := xY) (cs := [.bool x12]) hx12 (rfl) (by decide) ?_
  conv => whnf
  cases hj1
  exact hR3 _ _ (li (.u (.s (.s (.s (.u2 (.s (.u2 (.s (.u (.s (.u16 (.u16 (.s (.s (.s (.u16 (.s (.u16 (.u8 (.u4 (.u2 (.u .n)))))))))))))))))))))))
 refine .exit ?_
 conv => whnf
 exact hR1 _ (sj hs1).symm _ _ (wk [some 0, some 1, some 2] (.u (.c rfl (.e aR (.c rfl (.u2 (.c rfl (.u2 (.c rfl (.u64 (.u16 (.u4 (.u .nil)))))))))))) (.b rfl (.e au (.e aF (.e aR (.e aD .nil)))) (.b rfl (.c rfl (.c rfl (.c rfl (.c rfl .nil)))) (.old (.arr' G6 (aN _)) .nil))) rfl)
abbrev qac (qcl : Ty → Option Ty) : Prop := ∀ (p0 : Ty) (r : Ty), qcl p0 = some r → aA Tryz.prog 170 [.agg [.int .i64 p0.kind, .str p0.name, .slice (List.map aH p0.kids) .shared]] [] (.agg [.int .i64 r.kind, .str r.name, .slice (List.map aH r.kids) .shared]) []
theorem Gj (n : Nat) (qcl : Ty → Option Ty) (qbo : qac qcl) (p0 : Ty) (r : Ty) (h : nV n qcl p0 = some r) : aA Tryz.prog 170 [.agg [.int .i64 p0.kind, .str p0.name, .slice (List.map aH p0.kids) .shared]] [] (.agg [.int .i64 r.kind, .str r.name, .slice (List.map aH r.kids) .shared]) [] := by
 unfold nV at h
 refine aC true Tryz.func170 rfl (by rw [Tryz.ntmps170]; exact Nat.le_of_ble_eq_true rfl) fun Q hQ t ht => ?_
 conv at ht => whnf
 subst ht
 refine .q fun K1 k1 => ?_
 refine rg 2 ?_
 conv => whnf
 refine k1 _ _ ?_
 refine .q fun K2 k2 => ?_
 refine rg 1 ?_
 conv => whnf
 refine k2 _ _ ?_
 refine .q fun K3 k3 => ?_
 refine .q fun K4 k4 => ?_
 refine rg 0 ?_
 conv => whnf
 refine k4 _ _ ?_
 refine .block ?_
 obtain ⟨o1, ho1, h⟩ := ob h
 have hR1 : ∀ s2 : List Ty, o1 = .nx s2 → ∀ t9 h9, Le 0 t9 h9 (u2 (.ptr 0 0 :: (.ptr 1 0 :: (u16 (u8 (.unk :: [])))))) [.box [.int .i64 0, .str ([] : Str), .slice (List.map aH ([] : List Ty)) .nils], .box [.int .i64 p0.kind, .str p0.name, .slice (List.map aH s2) (.tip 2 3)], .tip (List.length s2 * 3)] → K3 t9 h9 := by
  intro s2 ho
  subst ho
  dsimp only [LR.el] at h
  intro t9 h9 hw
  refine k3 _ _ (AW.le hw ?_)
  refine .q fun K5 k5 => ?_
  refine rg 0 ?_
  conv => whnf
  refine k5 _ _ ?_
  refine .ret ?_
  conv => whnf
  have e9 := sj h
  subst e9
  refine hQ _ _ _ (aG aJ (fun g => by simp) ?_)
  conv => whnf
  try rfl
 refine .loopS (qJ n qcl p0) (fun (s1 : Int × (List Ty)) => (.unk :: (.ptr 0 0 :: (.ptr 1 0 :: (.ptr 2 0 :: (.int .i64 s1.1 :: (u16 (u8 [])))))))) (fun (s1 : Int × (List Ty)) => [.box [.int .i64 p0.kind, .str p0.name, .slice (List.map aH p0.kids) .shared], .box [.int .i64 0, .str ([] : Str), .slice (List.map aH ([] : List Ty)) .nils], .box [.int .i64 p0.kind, .str p0.name, .slice (List.map aH s1.2) (.tip 3 3)], .tip (List.length s1.2 * 3)]) ho1 (fun _ => rfl) (wk [some 0, some 1, some 2, none] (.u (.c rfl (.c rfl (.c rfl (.c rfl (.u16 (.u8 .nil))))))) (.b rfl (.c rfl (.c rfl (.e bf .nil))) (.b rfl (.c rfl (.c rfl (.c rfl .nil))) (.b rfl (.c rfl (.c rfl (.cons (.nils _ _) .nil))) (.w rfl .nil)))) rfl) ?_
 intro n1 s1 hs1 KL1 hKL1
 unfold qJ at hs1
 refine .q fun K6 k6 => ?_
 refine .q fun K7 k7 => ?_
 refine rg 0 ?_
 conv => whnf
 refine aQ (l := p0.kids) (f := aH) ?_
 conv => whnf
 refine k7 _ _ ?_
 refine .aK rfl hs1 (fun hc1 hs1 => ?_) (fun hc1 hs1 => ?_)
 ·refine .skip ?_
  conv => whnf
  refine k6 _ _ ?_
  refine .q fun K8 k8 => ?_
  refine .block ?_
  refine rg 2 ?_
  conv => whnf
  obtain ⟨x1, hx1, hs1⟩ := ob hs1
  refine aU (l := p0.kids) (f := aH) (cs := [.int .i64 ((x1).kind), .str ((x1).name), .slice (List.map aH ((x1).kids)) .shared]) hx1 (fC x1) rfl ?_
  conv => whnf
  obtain ⟨x2, hx2, hs1⟩ := ob hs1
  refine aB (qbo _ _ hx2) ZL (.cons (.same _) .nil) (fun g => by simp) (fun g => by simp) ?_
  conv => whnf
  refine ⟨List.map aH ([x2]), by simp only [List.map_cons, List.map_nil, fC]; rfl, ?_⟩
  conv => whnf
  obtain ⟨x3, hx3, hs1⟩ := ob hs1
  refine gq (l := s1.2) (ys := [x2]) (f := aH) hx3 ad9 rfl rfl rfl ?_
  conv => whnf
  refine ⟨by kernel_rfl, ?_⟩
  conv => whnf
  refine k8 _ _ ?_
  refine .know 4 0 fun hv1 => ?_
  refine .know 12 0 fun hv2 => ?_
  refine rg 0 ?_
  conv => whnf
  refine ⟨(s1.1 + 1), by have := bY hv1; have := gI hv2; have h8 := of_decide_eq_true hc1; exact bB (by omega) (by omega), ?_⟩
  conv => whnf
  exact hKL1 _ _ _ hs1 (wk [some 0, some 1, some 2, some 5] (.u (.c rfl (.c rfl (.c rfl (.c rfl (.u16 (.u8 .nil))))))) (.b rfl (.c rfl (.c rfl (.e bf .nil))) (.b rfl (.c rfl (.c rfl (.c rfl .nil))) (.b rfl (.c rfl (.c rfl (.cons (.dz (bf _ _) rfl) .nil))) (.t rfl .nil)))) rfl)
 refine .exit ?_
 conv => whnf
 exact hR1 _ (sj hs1).symm _ _ (wk [some 1, some 2, some 3] (.u2 (.c rfl (.c rfl (.u16 (.u8 (.u .nil)))))) (.b rfl (.c rfl (.c rfl (.c rfl .nil))) (.b rfl (.c rfl (.c rfl (.cons (.dz (bf _ _) rfl) .nil))) (.t rfl .nil))) rfl)
theorem M9 (n : Nat) : qac (eD n) := by
 induction n with
 | zero => exact (fun p0 r h => by unfold eD at h; cases h)
 | succ n ih =>
  exact (fun p0 r h => Gj n _ ih p0 r (by unfold eD at h; exact h))
theorem O7 (n : Nat) : qac (eD n) := (M9 n)
theorem RS (n : Nat) (p0 : Env) (r : (List Carrier) × (List Decl)) (h : nI n p0 = some r) : aA Tryz.prog 111 [.agg [.slice (List.map aj p0.carriers) .shared, .slice (List.map ak p0.names) .shared]] [] (.agg [.slice (List.map aj r.1) (.tip 0 2), .slice (List.map ak r.2) (.tip 1 4)]) [.tip (List.length r.1 * 2), .tip (List.length r.2 * 4)] := by
 unfold nI at h
 refine aC false Tryz.func111 rfl (by rw [Tryz.ntmps111]; exact Nat.le_of_ble_eq_true rfl) fun Q hQ t ht => ?_
 conv at ht => whnf
 subst ht
 refine .q fun K1 k1 => ?_
 refine rg 2 ?_
 conv => whnf
 refine k1 _ _ ?_
 refine .q fun K2 k2 => ?_
 refine rg 1 ?_
 conv => whnf
 refine k2 _ _ ?_
 refine .q fun K3 k3 => ?_
 refine .q fun K4 k4 => ?_
 refine rg 0 ?_
 conv => whnf
 refine k4 _ _ ?_
 refine .block ?_
 obtain ⟨o1, ho1, h⟩ := ob h
 have hR1 : ∀ s2 : List Carrier, o1 = .nx s2 → ∀ t9 h9, Le 0 t9 h9 (.unk :: (.ptr 0 0 :: (.ptr 1 0 :: (.ptr 2 0 :: (u32 (u16 (u4 []))))))) [.box [.slice (List.map aj p0.carriers) .shared, .slice (List.map ak p0.names) .shared], .box [.slice (List.map aj ([] : List Carrier)) .nils, .slice (List.map ak ([] : List Decl)) .nils], .box [.slice (List.map aj s2) (.tip 3 2), .slice (List.map ak ([] : List Decl)) .nils], .tip (List.length s2 * 2)] → K3 t9 h9 := by
  intro s2 ho
  subst ho
  dsimp only [LR.el] at h
  intro t9 h9 hw
  refine k3 _ _ (AW.le hw ?_)
  refine .q fun K5 k5 => ?_
  refine .q fun K6 k6 => ?_
  refine rg 0 ?_
  conv => whnf
  refine k6 _ _ ?_
  refine .block ?_
  obtain ⟨o2, ho2, h⟩ := ob h
  have hR2 : ∀ s4 : List Decl, o2 = .nx s4 → ∀ t9 h9, Le 0 t9 h9 (u2 (.ptr 0 0 :: (.ptr 1 0 :: (u32 (u16 (u4 [])))))) [.box [.slice (List.map aj ([] : List Carrier)) .nils, .slice (List.map ak ([] : List Decl)) .nils], .box [.slice (List.map aj s2) (.tip 2 2), .slice (List.map ak s4) (.tip 3 4)], .tip (List.length s2 * 2), .tip (List.length s4 * 4)] → K5 t9 h9 := by
   intro s4 ho
   subst ho
   dsimp only [LR.el] at h
   intro t9 h9 hw
   refine k5 _ _ (AW.le hw ?_)
   refine .q fun K7 k7 => ?_
   refine rg 0 ?_
   conv => whnf
   refine k7 _ _ ?_
   refine .ret ?_
   conv => whnf
   have e9 := sj h
   subst e9
   refine hQ _ _ _ (d9 (u2 (.ptr 0 0 :: (u32 (u16 (u4 (.unk :: [])))))) [.box [.slice (List.map aj s2) (.tip 1 2), .slice (List.map ak s4) (.tip 2 4)], .tip (List.length s2 * 2), .tip (List.length s4 * 4)] (wk [some 0, some 2, some 3] (.u2 (.c rfl (.u32 (.u16 (.u4 (.u .nil)))))) (.b rfl (.cons (.dz (au _ _) rfl) (.cons (.dz (aF _ _) rfl) .nil)) (.t rfl (.t rfl .nil))) rfl) (bH aJ [1, 2] rfl (.cons (rfl) (.cons (rfl) .nil)) ?_))
   conv => whnf
   first | rfl | (simp; done) | (simp; rfl) | (simp; and_intros <;> rfl)
  refine .loopS (rX n p0) (fun (s3 : Int × (List Decl)) => (.unk :: (.ptr 0 0 :: (.ptr 1 0 :: (.ptr 2 0 :: (u2 (.int .i64 s3.1 :: (u32 (u16 (.unk :: [])))))))))) (fun (s3 : Int × (List Decl)) => [.box [.slice (List.map aj p0.carriers) .shared, .slice (List.map ak p0.names) .shared], .box [.slice (List.map aj ([] : List Carrier)) .nils, .slice (List.map ak ([] : List Decl)) .nils], .box [.slice (List.map aj s2) (.tip 3 2), .slice (List.map ak s3.2) (.tip 4 4)], .tip (List.length s2 * 2), .tip (List.length s3.2 * 4)]) ho2 (fun _ => rfl) (wk [some 0, some 1, some 2, some 3, none] (.u (.c rfl (.c rfl (.c rfl (.u2 (.c rfl (.u32 (.u16 (.u .nil))))))))) (.b rfl (.e au (.e aF .nil)) (.b rfl (.c rfl (.c rfl .nil)) (.b rfl (.cons (.dz (au _ _) rfl) (.cons (.nils _ _) .nil)) (.t rfl (.w rfl .nil))))) rfl) ?_
  intro n2 s3 hs2 KL2 hKL2
  unfold rX at hs2
  refine .q fun K8 k8 => ?_
  refine .q fun K9 k9 => ?_
  refine rg 0 ?_
  conv => whnf
  refine aQ (l := p0.names) (f := ak) ?_
  conv => whnf
  refine k9 _ _ ?_
  refine .aK rfl hs2 (fun hc1 hs2 => ?_) (fun hc1 hs2 => ?_)
  ·refine .skip ?_
   conv => whnf
   refine k8 _ _ ?_
   refine .q fun K10 k10 => ?_
   refine .block ?_
   refine .q fun K11 k11 => ?_
   refine rg 1 ?_
   conv => whnf
   obtain ⟨x1, hx1, hs2⟩ := ob hs2
   refine aU (l := p0.names) (f := ak) (cs := [.str ((x1).name), .int .i64 (((x1).ty).kind), .str (((x1).ty).name), .slice (List.map aH (((x1).ty).kids)) .shared]) hx1 (rfl) rfl ?_
   conv => whnf
   refine k11 _ _ ?_
   refine rg 2 ?_
   conv => whnf
   obtain ⟨x2, hx2, hs2⟩ := ob hs2
   refine aB (O7 _ _ _ hx2) ZL (.cons (.same _) .nil) (fun g => by simp) (fun g => by simp) ?_
   conv => whnf
   refine ⟨List.map ak ([(Decl.mk x1.name x2)]), rfl, ?_⟩
   conv => whnf
   obtain ⟨x3, hx3, hs2⟩ := ob hs2
   refine gq (l := s3.2) (ys := [(Decl.mk x1.name x2)]) (f := ak) hx3 Y1 rfl rfl rfl ?_
   conv => whnf
   refine ⟨by kernel_rfl, ?_⟩
   conv => whnf
   refine k10 _ _ ?_
   refine .know 6 0 fun hv1 => ?_
   refine .know 34 0 fun hv2 => ?_
   refine rg 0 ?_
   conv => whnf
   refine ⟨(s3.1 + 1), by have := bY hv1; have := gI hv2; have h8 := of_decide_eq_true hc1; exact bB (by omega) (by omega), ?_⟩
   conv => whnf
   exact hKL2 _ _ _ hs2 (wk [some 0, some 1, some 2, some 3, some 7] (.u (.c rfl (.c rfl (.c rfl (.u2 (.c rfl (.u32 (.u16 (.u .nil))))))))) (.b rfl (.e au (.e aF .nil)) (.b rfl (.c rfl (.c rfl .nil)) (.b rfl (.cons (.dz (au _ _) rfl) (.cons (.dz (aF _ _) rfl) .nil)) (.t rfl (.t rfl .nil))))) rfl)
  refine .exit ?_
  conv => whnf
  exact hR2 _ (sj hs2).symm _ _ (wk [some 1, some 2, some 3, some 4] (.u2 (.c rfl (.c rfl (.u32 (.u16 (.u4 .nil)))))) (.b rfl (.c rfl (.c rfl .nil)) (.b rfl (.cons (.dz (au _ _) rfl) (.cons (.dz (aF _ _) rfl) .nil)) (.t rfl (.t rfl .nil)))) rfl)
 refine .loopS (rY n p0) (fun (s1 : Int × (List Carrier)) => (.unk :: (.ptr 0 0 :: (.ptr 1 0 :: (.ptr 2 0 :: (.int .i64 s1.1 :: (u32 (u16 (u2 (.unk :: [])))))))))) (fun (s1 : Int × (List Carrier)) => [.box [.slice (List.map aj p0.carriers) .shared, .slice (List.map ak p0.names) .shared], .box [.slice (List.map aj ([] : List Carrier)) .nils, .slice (List.map ak ([] : List Decl)) .nils], .box [.slice (List.map aj s1.2) (.tip 3 2), .slice (List.map ak ([] : List Decl)) .nils], .tip (List.length s1.2 * 2)]) ho1 (fun _ => rfl) (wk [some 0, some 1, some 2, none] (.u (.c rfl (.c rfl (.c rfl (.c rfl (.u32 (.u16 (.u2 (.u .nil))))))))) (.b rfl (.e au (.e aF .nil)) (.b rfl (.c rfl (.c rfl .nil)) (.b rfl (.cons (.nils _ _) (.c rfl .nil)) (.w rfl .nil)))) rfl) ?_
 intro n1 s1 hs1 KL1 hKL1
 unfold rY at hs1
 refine .q fun K12 k12 => ?_
 refine .q fun K13 k13 => ?_
 refine rg 0 ?_
 conv => whnf
 refine aQ (l := p0.carriers) (f := aj) ?_
 conv => whnf
 refine k13 _ _ ?_
 refine .aK rfl hs1 (fun hc2 hs1 => ?_) (fun hc2 hs1 => ?_)
 ·refine .skip ?_
  conv => whnf
  refine k12 _ _ ?_
  refine .q fun K14 k14 => ?_
  refine .block ?_
  refine .q fun K15 k15 => ?_
  refine rg 1 ?_
  conv => whnf
  obtain ⟨x4, hx4, hs1⟩ := ob hs1
  refine aU (l := p0.carriers) (f := aj) (cs := [.str ((x4).name), .slice (List.map encS ((x4).elems)) .shared]) hx4 (rfl) rfl ?_
  conv => whnf
  refine k15 _ _ ?_
  refine rg 4 ?_
  conv => whnf
  refine ⟨List.map encS ([] : List Str), rfl, ?_⟩
  conv => whnf
  obtain ⟨x5, hx5, hs1⟩ := ob hs1
  refine gq (l := ([] : List Str)) (ys := x4.elems) (f := encS) hx5 Dj rfl rfl rfl ?_
  conv => whnf
  refine ⟨List.map aj ([(Carrier.mk x4.name x5)]), rfl, ?_⟩
  conv => whnf
  obtain ⟨x6, hx6, hs1⟩ := ob hs1
  refine gq (l := s1.2) (ys := [(Carrier.mk x4.name x5)]) (f := aj) hx6 MO rfl rfl rfl ?_
  conv => whnf
  refine ⟨by kernel_rfl, ?_⟩
  conv => whnf
  refine k14 _ _ ?_
  refine .know 4 0 fun hv3 => ?_
  refine .know 10 0 fun hv4 => ?_
  refine rg 0 ?_
  conv => whnf
  refine ⟨(s1.1 + 1), by have := bY hv3; have := gI hv4; have h8 := of_decide_eq_true hc2; exact bB (by omega) (by omega), ?_⟩
  conv => whnf
  exact hKL1 _ _ _ hs1 (wk [some 0, some 1, some 2, some 8] (.u (.c rfl (.c rfl (.c rfl (.c rfl (.u32 (.u16 (.u2 (.u .nil))))))))) (.b rfl (.e au (.e aF .nil)) (.b rfl (.c rfl (.c rfl .nil)) (.b rfl (.cons (.dz (au _ _) rfl) (.c rfl .nil)) (.t rfl .nil)))) rfl)
 refine .exit ?_
 conv => whnf
 exact hR1 _ (sj hs1).symm _ _ (li (.u (.s (.s (.s (.u16 (.u16 (.u16 (.u4 .n)))))))))
theorem Px (n : Nat) (p0 : List Val) (r : List Val) (h : zi n p0 = some r) : aA Tryz.prog 65 [.slice (List.map ah p0) .shared] [] (.psl 0 4 (List.length r)) [.arr 4 (List.map ah r)] := by
 unfold zi at h
 refine aC false Tryz.func65 rfl (by rw [Tryz.ntmps65]; exact Nat.le_of_ble_eq_true rfl) fun Q hQ t ht => ?_
 conv at ht => whnf
 subst ht
 refine .q fun K1 k1 => ?_
 refine rg 0 ?_
 conv => whnf
 refine k1 _ _ ?_
 refine .q fun K2 k2 => ?_
 refine rg 0 ?_
 conv => whnf
 refine k2 _ _ ?_
 refine .q fun K3 k3 => ?_
 refine .q fun K4 k4 => ?_
 refine rg 0 ?_
 conv => whnf
 refine k4 _ _ ?_
 refine .block ?_
 obtain ⟨o1, ho1, h⟩ := ob h
 have hR1 : ∀ s2 : List Val, o1 = .nx s2 → ∀ t9 h9, Le 0 t9 h9 (u2 (.unk :: (.psl 0 4 (List.length s2) :: (u16 [])))) [.arr 4 (List.map ah s2)] → K3 t9 h9 := by
  intro s2 ho
  subst ho
  dsimp only [LR.el] at h
  intro t9 h9 hw
  refine k3 _ _ (AW.le hw ?_)
  refine .q fun K5 k5 => ?_
  refine rg 0 ?_
  conv => whnf
  refine k5 _ _ ?_
  refine .ret ?_
  conv => whnf
  have e9 := sj h
  subst e9
  refine hQ _ _ _ (d9 (u2 (.psl 0 4 (List.length s2) :: (u16 (.unk :: [])))) [.arr 4 (List.map ah s2)] (wk [some 0] (.u2 (.c rfl (.u16 (.u .nil)))) (.old (.arr' aD (aN _)) .nil) rfl) (bH aJ [0] rfl (.cons (congrArg (AObj.arr _) (aD _ _)) .nil) ?_))
  conv => whnf
  first | rfl | (simp; done) | (simp; rfl) | (simp; and_intros <;> rfl)
 refine .loopS (qG n p0) (fun (s1 : (List Val) × Int) => (.slice (List.map ah p0) .shared :: (u2 (.psl 0 4 (List.length s1.1) :: (.int .i64 s1.2 :: (u8 (u4 (u2 (.unk :: []))))))))) (fun (s1 : (List Val) × Int) => [.arr 4 (List.map ah s1.1)]) ho1 (fun _ => rfl) (wk [none] (.e aD (.u2 (.cons (.nilP _ _) (.c rfl (.u8 (.u4 (.u2 (.u .nil)))))))) (.w rfl .nil) rfl) ?_
 intro n1 s1 hs1 KL1 hKL1
 unfold qG at hs1
 refine .q fun K6 k6 => ?_
 refine .q fun K7 k7 => ?_
 refine rg 0 ?_
 conv => whnf
 refine aQ (l := p0) (f := ah) ?_
 conv => whnf
 refine k7 _ _ ?_
 refine .aK rfl hs1 (fun hc1 hs1 => ?_) (fun hc1 hs1 => ?_)
 ·refine .skip ?_
  conv => whnf
  refine k6 _ _ ?_
  refine .q fun K8 k8 => ?_
  refine .block ?_
  refine rg 2 ?_
  conv => whnf
  obtain ⟨x1, hx1, hs1⟩ := ob hs1
  refine aU (l := p0) (f := ah) (cs := [.int .i64 ((x1).kind), .int .i64 ((x1).n), .str ((x1).name), .slice (List.map ah ((x1).kids)) .shared]) hx1 (aX x1) rfl ?_
  conv => whnf
  obtain ⟨x2, hx2, hs1⟩ := ob hs1
  refine aB (Fh _ _ _ hx2) MU (.cons (.same _) .nil) (fun g => by simp) (fun g => by simp) ?_
  conv => whnf
  refine ⟨List.map ah ([x2]), by simp only [List.map_cons, List.map_nil, aX]; try rfl, ?_⟩
  conv => whnf
  obtain ⟨x3, hx3, hs1⟩ := ob hs1
  refine yM (l := s1.1) (l' := s1.1) (ys := ([x2])) (f := ah) hx3 (aN _) lY ?_
  conv => whnf
  refine k8 _ _ ?_
  refine .know 4 0 fun hv1 => ?_
  refine .know 0 0 fun hv2 => ?_
  refine rg 0 ?_
  conv => whnf
  refine ⟨(s1.2 + 1), by have := bY hv1; have := gI hv2; have h8 := of_decide_eq_true hc1; exact bB (by omega) (by omega), ?_⟩
  conv => whnf
  exact hKL1 _ _ _ hs1 (wk [some 2] (.e aD (.u2 (.c rfl (.c rfl (.u8 (.u4 (.u2 (.u .nil)))))))) (.old (.arr' aD (aN _)) .nil) rfl)
 refine .exit ?_
 conv => whnf
 exact hR1 _ (sj hs1).symm _ _ (wk [some 0] (.u2 (.u (.c rfl (.u16 .nil)))) (.old (.arr' aD (aN _)) .nil) rfl)
theorem Al (n : Nat) (p0 : S_api_World) (r : (List Carrier) × (List Decl) × (List Int) × (List Val)) (h : nS n p0 = some r) : aA Tryz.prog 56 [.agg [.slice (List.map aj p0.env.carriers) .shared, .slice (List.map ak p0.env.names) .shared, .slice (List.map encI p0.sizes) .shared, .slice (List.map ah p0.values) .shared]] [] (.agg [.slice (List.map aj r.1) (.tip 0 2), .slice (List.map ak r.2.1) (.tip 1 4), .slice (List.map encI r.2.2.1) (.tip 2 1), .psl 3 4 (List.length r.2.2.2)]) [.tip (List.length r.1 * 2), .tip (List.length r.2.1 * 4), .tip (List.length r.2.2.1 * 1), .arr 4 (List.map ah r.2.2.2)] := by
 unfold nS at h
 refine aC false Tryz.func56 rfl (by rw [Tryz.ntmps56]; exact Nat.le_of_ble_eq_true rfl) fun Q hQ t ht => ?_
 conv at ht => whnf
 subst ht
 refine .q fun K1 k1 => ?_
 refine rg 2 ?_
 conv => whnf
 refine k1 _ _ ?_
 refine .q fun K2 k2 => ?_
 refine rg 5 ?_
 conv => whnf
 obtain ⟨x1, hx1, h⟩ := ob h
 refine bF [] [2, 3] [.agg [.slice (List.map aj p0.env.carriers) .shared, .slice (List.map ak p0.env.names) .shared]] [.agg [.slice (List.map aj p0.env.carriers) .shared, .slice (List.map ak p0.env.names) .shared]] (RS _ _ _ hx1) afy rfl .nil (by simp; try decide) (.cons (.same _) .nil) (rn := .agg [.slice (List.map aj x1.1) (.tip 2 2), .slice (List.map ak x1.2) (.tip 3 4)]) (by simp; try decide) (Hn := [.tip (List.length x1.1 * 2), .tip (List.length x1.2 * 4)]) ((bJ (rfl) (bJ (rfl) rfl))) ?_
 conv => whnf
 refine ⟨List.map encI ([] : List Int), rfl, ?_⟩
 conv => whnf
 obtain ⟨x2, hx2, h⟩ := ob h
 refine gq (l := ([] : List Int)) (ys := p0.sizes) (f := encI) hx2 agT rfl rfl rfl ?_
 conv => whnf
 obtain ⟨x3, hx3, h⟩ := ob h
 refine bF [] [6] [.slice (List.map ah p0.values) .shared] [.slice (List.map ah p0.values) .shared] (Px _ _ _ hx3) Xf rfl .nil (by simp; try decide) (.cons (.same _) .nil) (rn := .psl 6 4 (List.length x3)) (by simp; try decide) (Hn := [.arr 4 (List.map ah x3)]) ((bJ (congrArg (AObj.arr _) (aD _ _)) rfl)) ?_
 conv => whnf
 refine ⟨by kernel_rfl, ?_⟩
 conv => whnf
 refine k2 _ _ ?_
 refine .ret ?_
 conv => whnf
 have e9 := sj h
 subst e9
 refine hQ _ _ _ (d9 (u2 (.ptr 0 0 :: (u8 (u2 (.unk :: []))))) [.box [.slice (List.map aj x1.1) (.tip 1 2), .slice (List.map ak x1.2) (.tip 2 4), .slice (List.map encI x2) (.tip 3 1), .psl 4 4 (List.length x3)], .tip (List.length x1.1 * 2), .tip (List.length x1.2 * 4), .tip (List.length x2 * 1), .arr 4 (List.map ah x3)] (wk [some 1, some 2, some 3, some 5, some 6] (.u2 (.c rfl (.u8 (.u2 (.u .nil))))) (.b rfl (.cons (.dz (au _ _) rfl) (.cons (.dz (aF _ _) rfl) (.cons (.dz (aR _ _) rfl) (.c rfl .nil)))) (.t rfl (.t rfl (.t rfl (.old (.arr' aD (aN _)) .nil))))) rfl) (bH aJ [1, 2, 3, 4] rfl (.cons (rfl) (.cons (rfl) (.cons (rfl) (.cons (congrArg (AObj.arr _) (aD _ _)) .nil)))) ?_))
 conv => whnf
 first | rfl | (simp; done) | (simp; rfl) | (simp; and_intros <;> rfl)
theorem aaW (n : Nat) (p0 : List Str) (p1 : List Str) (r : Bool) (h : wR n p0 p1 = some r) : aA Tryz.prog 171 [.slice (List.map encS p0) .shared, .slice (List.map encS p1) .shared] [] (.bool r) [] := by
 unfold wR at h
 refine aC true Tryz.func171 rfl (by rw [Tryz.ntmps171]; exact Nat.le_of_ble_eq_true rfl) fun Q hQ t ht => ?_
 conv at ht => whnf
 subst ht
 refine .q fun K1 k1 => ?_
 refine rg 0 ?_
 conv => whnf
 refine k1 _ _ ?_
 refine .q fun K2 k2 => ?_
 refine .q fun K3 k3 => ?_
 refine rg 0 ?_
 conv => whnf
 refine aQ (l := p0) (f := encS) ?_
 conv => whnf
 refine aQ (l := p1) (f := encS) ?_
 conv => whnf
 refine k3 _ _ ?_
 refine .aK rfl h (fun hc1 h => ?_) (fun hc1 h => ?_)
 ·refine .q fun K4 k4 => ?_
  refine rg 0 ?_
  conv => whnf
  refine k4 _ _ ?_
  refine .ret ?_
  conv => whnf
  have e9 := sj h
  subst e9
  refine hQ _ _ _ (aG aJ (fun g => rfl) ?_)
  conv => whnf
 refine .skip ?_
 conv => whnf
 refine k2 _ _ ?_
 refine .q fun K5 k5 => ?_
 refine .q fun K6 k6 => ?_
 refine rg 0 ?_
 conv => whnf
 refine k6 _ _ ?_
 refine .block ?_
 obtain ⟨o1, ho1, h⟩ := ob h
 have hR1 : ∀ s2 : Unit, o1 = .nx s2 → ∀ t9 h9, Le 0 t9 h9 (u16 (u8 (u2 []))) [] → K5 t9 h9 := by
  intro s2 ho
  subst ho
  dsimp only [LR.el] at h
  intro t9 h9 hw
  refine k5 _ _ (AW.le hw ?_)
  refine .q fun K7 k7 => ?_
  refine rg 0 ?_
  conv => whnf
  refine k7 _ _ ?_
  refine .ret ?_
  conv => whnf
  have e9 := sj h
  subst e9
  refine hQ _ _ _ (aG aJ (fun g => rfl) ?_)
  conv => whnf
 refine .loopS (uR n p0 p1) (fun (s1 : Int) => (.slice (List.map encS p0) .shared :: (.slice (List.map encS p1) .shared :: (u2 (.unk :: (.int .i64 s1 :: (u16 (u4 [])))))))) (fun (s1 : Int) => []) ho1 (fun _ => rfl) (li (.s (.s (.u2 (.u (.s (.u16 (.u4 .n)))))))) ?_
 intro n1 s1 hs1 KL1 hKL1
 unfold uR at hs1
 refine .q fun K8 k8 => ?_
 refine .q fun K9 k9 => ?_
 refine rg 0 ?_
 conv => whnf
 refine aQ (l := p0) (f := encS) ?_
 conv => whnf
 refine k9 _ _ ?_
 refine .aK rfl hs1 (fun hc2 hs1 => ?_) (fun hc2 hs1 => ?_)
 ·refine .skip ?_
  conv => whnf
  refine k8 _ _ ?_
  refine .q fun K10 k10 => ?_
  refine .block ?_
  refine .q fun K11 k11 => ?_
  refine rg 0 ?_
  conv => whnf
  obtain ⟨x1, hx1, hs1⟩ := ob hs1
  refine aU (l := p0) (f := encS) (cs := [.str (x1)]) hx1 (rfl) rfl ?_
  conv => whnf
  obtain ⟨x2, hx2, hs1⟩ := ob hs1
  refine aU (l := p1) (f := encS) (cs := [.str (x2)]) hx2 (rfl) rfl ?_
  conv => whnf
  refine ⟨by kernel_rfl, ?_⟩
  conv => whnf
  refine k11 _ _ ?_
  refine .aK rfl hs1 (fun hc3 hs1 => ?_) (fun hc3 hs1 => ?_)
  ·refine .q fun K12 k12 => ?_
   refine rg 0 ?_
   conv => whnf
   refine k12 _ _ ?_
   refine .ret ?_
   conv => whnf
   have e9 := sj hs1
   subst e9
   dsimp only [LR.el] at h
   have e9 := sj h
   subst e9
   refine hQ _ _ _ (aG aJ (fun g => rfl) ?_)
   conv => whnf
  refine .skip ?_
  conv => whnf
  refine k10 _ _ ?_
  refine .know 5 0 fun hv1 => ?_
  refine .know 0 0 fun hv2 => ?_
  refine rg 0 ?_
  conv => whnf
  refine ⟨(s1 + 1), by have := bY hv1; have := gI hv2; have h8 := of_decide_eq_true hc2; exact bB (by omega) (by omega), ?_⟩
  conv => whnf
  exact hKL1 _ _ _ hs1 (li (.s (.s (.u2 (.u (.s (.u16 (.u4 .n))))))))
 refine .exit ?_
 conv => whnf
 exact hR1 _ (sj hs1).symm _ _ (li (.u16 (.u8 (.u2 .n))))
theorem JX (n : Nat) (p0 : Carrier) (p1 : Carrier) (r : Bool) (h : jL n p0 p1 = some r) : aA Tryz.prog 112 [.agg [.str p0.name, .slice (List.map encS p0.elems) .shared], .agg [.str p1.name, .slice (List.map encS p1.elems) .shared]] [] (.bool r) [] := by
 unfold jL at h
 refine aC true Tryz.func112 rfl (by rw [Tryz.ntmps112]; exact Nat.le_of_ble_eq_true rfl) fun Q hQ t ht => ?_
 conv at ht => whnf
 subst ht
 refine .q fun K1 k1 => ?_
 refine rg 2 ?_
 conv => whnf
 refine k1 _ _ ?_
 refine .q fun K2 k2 => ?_
 obtain ⟨s1, hj1, h⟩ := ob h
 have hR1 : ∀ t9 h9, Le 0 t9 h9 (u4 (.bool s1 :: (u8 (u4 [])))) [] → K2 t9 h9 := by
  intro t9 h9 hw
  refine k2 _ _ (AW.le hw ?_)
  clear hw
  refine .ret ?_
  conv => whnf
  have e9 := sj h
  subst e9
  refine hQ _ _ _ (aG aJ (fun g => rfl) ?_)
  conv => whnf
 refine rg 0 ?_
 conv => whnf
 refine aI hj1 (fun hc1 hj1 => ?_) (fun hc1 hj1 => ?_)
 ·conv => whnf
  obtain ⟨x1, hx1, hj1⟩ := ob hj1
  refine aB (aaW _ _ _ _ hx1) aft (.cons (.same _) (.cons (.same _) .nil)) (fun g => by simp) (fun g => rfl) ?_
  conv => whnf
  cases hj1
  exact hR1 _ _ (wk [] (.u4 (.c rfl (.u8 (.u4 .nil)))) .nil rfl)
 conv => whnf
 cases hj1
 exact hR1 _ _ (wk [] (.u4 (.c rfl (.u8 (.u4 .nil)))) .nil rfl)
abbrev qah (qcp : Ty → Ty → Option Bool) : Prop := ∀ (p0 : Ty) (p1 : Ty) (r : Bool), qcp p0 p1 = some r → aA Tryz.prog 113 [.agg [.int .i64 p0.kind, .str p0.name, .slice (List.map aH p0.kids) .shared], .agg [.int .i64 p1.kind, .str p1.name, .slice (List.map aH p1.kids) .shared]] [] (.bool r) []
theorem Gi (n : Nat) (qcp : Ty → Ty → Option Bool) (qbp : qah qcp) (p0 : Ty) (p1 : Ty) (r : Bool) (h : jI n qcp p0 p1 = some r) : aA Tryz.prog 113 [.agg [.int .i64 p0.kind, .str p0.name, .slice (List.map aH p0.kids) .shared], .agg [.int .i64 p1.kind, .str p1.name, .slice (List.map aH p1.kids) .shared]] [] (.bool r) [] := by
 unfold jI at h
 refine aC true Tryz.func113 rfl (by rw [Tryz.ntmps113]; exact Nat.le_of_ble_eq_true rfl) fun Q hQ t ht => ?_
 conv at ht => whnf
 subst ht
 refine .q fun K1 k1 => ?_
 refine rg 2 ?_
 conv => whnf
 refine k1 _ _ ?_
 refine .q fun K2 k2 => ?_
 refine .q fun K3 k3 => ?_
 obtain ⟨s1, hj1, h⟩ := ob h
 have hR1 : ∀ t9 h9, Le 0 t9 h9 (u2 (.ptr 0 0 :: (.ptr 1 0 :: (u16 (u4 (u2 (.bool s1 :: (u16 (u2 (.unk :: [])))))))))) [.box [.int .i64 p0.kind, .str p0.name, .slice (List.map aH p0.kids) .shared], .box [.int .i64 p1.kind, .str p1.name, .slice (List.map aH p1.kids) .shared]] → K3 t9 h9 := by
  intro t9 h9 hw
  refine k3 _ _ (AW.le hw ?_)
  clear hw
  refine .aK rfl h (fun hc1 h => ?_) (fun hc1 h => ?_)
  ·refine .q fun K4 k4 => ?_
   refine rg 0 ?_
   conv => whnf
   refine k4 _ _ ?_
   refine .ret ?_
   conv => whnf
   have e9 := sj h
   subst e9
   refine hQ _ _ _ (aG aJ (fun g => rfl) ?_)
   conv => whnf
  refine .skip ?_
  conv => whnf
  refine k2 _ _ ?_
  refine .q fun K5 k5 => ?_
  refine .q fun K6 k6 => ?_
  refine rg 0 ?_
  conv => whnf
  refine k6 _ _ ?_
  refine .block ?_
  obtain ⟨o1, ho1, h⟩ := ob h
  have hR2 : ∀ s3 : Unit, o1 = .nx s3 → ∀ t9 h9, Le 0 t9 h9 (u32 (u8 (u4 (u2 [])))) [] → K5 t9 h9 := by
   intro s3 ho
   subst ho
   dsimp only [LR.el] at h
   intro t9 h9 hw
   refine k5 _ _ (AW.le hw ?_)
   refine .q fun K7 k7 => ?_
   refine rg 0 ?_
   conv => whnf
   refine k7 _ _ ?_
   refine .ret ?_
   conv => whnf
   have e9 := sj h
   subst e9
   refine hQ _ _ _ (aG aJ (fun g => rfl) ?_)
   conv => whnf
  refine .loopS (nQ n qcp p0 p1) (fun (s2 : Int) => (u2 (.ptr 0 0 :: (.ptr 1 0 :: (.unk :: (.int .i64 s2 :: (u32 (u8 [])))))))) (fun (s2 : Int) => [.box [.int .i64 p0.kind, .str p0.name, .slice (List.map aH p0.kids) .shared], .box [.int .i64 p1.kind, .str p1.name, .slice (List.map aH p1.kids) .shared]]) ho1 (fun _ => rfl) (li (.u2 (.s (.s (.u (.s (.u16 (.u16 (.u8 .n))))))))) ?_
  intro n1 s2 hs1 KL1 hKL1
  unfold nQ at hs1
  refine .q fun K8 k8 => ?_
  refine .q fun K9 k9 => ?_
  refine rg 0 ?_
  conv => whnf
  refine aQ (l := p0.kids) (f := aH) ?_
  conv => whnf
  refine k9 _ _ ?_
  refine .aK rfl hs1 (fun hc2 hs1 => ?_) (fun hc2 hs1 => ?_)
  ·refine .skip ?_
   conv => whnf
   refine k8 _ _ ?_
   refine .q fun K10 k10 => ?_
   refine .block ?_
   refine .q fun K11 k11 => ?_
   refine rg 0 ?_
   conv => whnf
   obtain ⟨x1, hx1, hs1⟩ := ob hs1
   refine aU (l := p0.kids) (f := aH) (cs := [.int .i64 ((x1).kind), .str ((x1).name), .slice (List.map aH ((x1).kids)) .shared]) hx1 (fC x1) rfl ?_
   conv => whnf
   obtain ⟨x2, hx2, hs1⟩ := ob hs1
   refine aU (l := p1.kids) (f := aH) (cs := [.int .i64 ((x2).kind), .str ((x2).name), .slice (List.map aH ((x2).kids)) .shared]) hx2 (fC x2) rfl ?_
   conv => whnf
   obtain ⟨x3, hx3, hs1⟩ := ob hs1
   refine aB (qbp _ _ _ hx3) Zg (.cons (.same _) (.cons (.same _) .nil)) (fun g => by simp) (fun g => rfl) ?_
   conv => whnf
   refine ⟨by kernel_rfl, ?_⟩
   conv => whnf
   refine k11 _ _ ?_
   refine .aK rfl hs1 (fun hc3 hs1 => ?_) (fun hc3 hs1 => ?_)
   ·refine .q fun K12 k12 => ?_
    refine rg 0 ?_
    conv => whnf
    refine k12 _ _ ?_
    refine .ret ?_
    conv => whnf
    have e9 := sj hs1
    subst e9
    dsimp only [LR.el] at h
    have e9 := sj h
    subst e9
    refine hQ _ _ _ (aG aJ (fun g => rfl) ?_)
    conv => whnf
   refine .skip ?_
   conv => whnf
   refine k10 _ _ ?_
   refine .know 5 0 fun hv1 => ?_
   refine .know 29 0 fun hv2 => ?_
   refine rg 0 ?_
   conv => whnf
   refine ⟨(s2 + 1), by have := bY hv1; have := gI hv2; have h8 := of_decide_eq_true hc2; exact bB (by omega) (by omega), ?_⟩
   conv => whnf
   exact hKL1 _ _ _ hs1 (li (.u2 (.s (.s (.u (.s (.u16 (.u16 (.u8 .n)))))))))
  refine .exit ?_
  conv => whnf
  exact hR2 _ (sj hs1).symm _ _ (wk [] (.u32 (.u8 (.u4 (.u2 .nil)))) .nil rfl)
 refine rg 0 ?_
 conv => whnf
 refine aI hj1 (fun hc4 hj1 => ?_) (fun hc4 hj1 => ?_)
 ·conv => whnf
  cases hj1
  exact hR1 _ _ (li (.u2 (.s (.s (.u16 (.u4 (.u2 (.s (.u16 (.u2 (.u .n)))))))))))
 conv => whnf
 refine aI hj1 (fun hc5 hj1 => ?_) (fun hc5 hj1 => ?_)
 ·conv => whnf
  cases hj1
  exact hR1 _ _ (li (.u2 (.s (.s (.u16 (.u4 (.u2 (.s (.u16 (.u2 (.u .n)))))))))))
 conv => whnf
 refine aQ (l := p0.kids) (f := aH) ?_
 conv => whnf
 refine aQ (l := p1.kids) (f := aH) ?_
 conv => whnf
 cases hj1
 exact hR1 _ _ (li (.u2 (.s (.s (.u16 (.u4 (.u2 (.s (.u16 (.u2 (.u .n)))))))))))
theorem Ns (n : Nat) : qah (bg n) := by
 induction n with
 | zero => exact (fun p0 p1 r h => by unfold bg at h; cases h)
 | succ n ih =>
  exact (fun p0 p1 r h => Gi n _ ih p0 p1 r (by unfold bg at h; exact h))
theorem Pm (n : Nat) : qah (bg n) := (Ns n)
end Abs
end Go.Proofs.YtkopaeklihhdlaaGreat
