/-
  Contracts of Go functions (printed). Conditions: none.
-/
import Derived.KernelRfl
import Derived.Test.YtiiaccpcoclklaaGreatCW3oxfdbff1
set_option linter.unusedSimpArgs false
set_option linter.unusedVariables false
namespace Go.Proofs.YtiiaccpcoclklaaGreat
namespace Abs
open Go Go.Proofs
set_option maxRecDepth 100000
set_option maxHeartbeats 40000000
theorem z1x0 {p q : Prop} (f : p → q) (h : p := by exact wk [some 0, some 1, some 2, some 4, some 5] (.u (.e aQ (.c rfl (.c rfl (.u2 (.c rfl (.u (.c rfl (.c rfl (.cons (.bF (aZ _ _) rfl) (.c rfl (.u64 (.u16 (.u8 (.u2 .nil))))))))))))))) (.b rfl (.c rfl (.c rfl (.c rfl (.c rfl (.c rfl (.e aB (.e aN .nil))))))) (.b rfl (.c rfl (.c rfl (.c rfl (.c rfl (.c rfl (.c rfl (.c rfl .nil))))))) (.b rfl (.c rfl (.c rfl (.c rfl (.c rfl (.c rfl (.e aB (.c rfl .nil))))))) (.old (.arr' aN (aT _)) (.t rfl .nil))))) rfl) : q := f h
theorem irem_eq {a c x : Int} (h : J2 a c = some x) : x = a.tmod c := by
 unfold J2 at h
 split at h <;> first | exact (Option.some.inj h).symm | cases h
theorem aew (n : Nat) (p0 : List Str) (p1 : Str) (r : List Str) (h : C9 n p0 p1 = some r) : ak Tryz.prog 143 [bQ p0, .str p1] [] (bQ r) [] := by
 unfold C9 at h
 refine ah true Tryz.func143 rfl (nt Tryz.ntmps143 rfl) fun Q hQ t ht => ?_
 conv at ht => whnf
 subst ht
 refine .q fun K1 k1 => rg 0 ?_
 refine k1 _ _ ?_
 refine .q fun K2 k2 => rg 0 ?_
 refine k2 _ _ ?_
 refine .q fun K3 k3 => .q fun K4 k4 => rg 0 ?_
 refine k4 _ _ ?_
 refine .block ?_
 obtain ⟨o1, ho1, h⟩ := ob h
 have hR1 : ∀ s2 : List Str, o1 = .nx s2 → ∀ t9 h9, Le 0 t9 h9 (u4 (.unk :: (.slice (List.map encS s2) (.tip 0 1) :: (u16 (u4 (.unk :: [])))))) [.tip (List.length s2 * 1)] → K3 t9 h9 := by
  intro s2 ho
  subst ho
  dsimp only [LR.el] at h
  intro t9 h9 hw
  refine k3 _ _ (AW.le hw ?_)
  refine .q fun K5 k5 => rg 0 ?_
  refine k5 _ _ ?_
  refine .ret ?_
  have e9 := sj h
  subst e9
  refine hQ _ _ _ (aj aD (fun g => by simp) ?_)
  conv => whnf
  try rfl
 refine .loopS (zo n p0 p1) (fun (s1 : (List Str) × Int) => (bQ p0 :: (.str p1 :: (u2 (.unk :: (.slice (List.map encS s1.1) (.tip 0 1) :: (.i s1.2 :: (u16 (u4 []))))))))) (fun (s1 : (List Str) × Int) => [.tip (List.length s1.1 * 1)]) ho1 (fun _ => rfl) (wk [none] (.e aZ (.c rfl (.u2 (.u (.cons (.nils _ _) (.c rfl (.u16 (.u4 .nil)))))))) (.w rfl .nil) rfl) ?_
 intro n1 s1 hs1 KL1 hKL1
 unfold zo at hs1
 refine .q fun K6 k6 => .q fun K7 k7 => rg 0 ?_
 refine aW (l := p0) (f := encS) ?_
 refine k7 _ _ ?_
 refine .aC rfl hs1 (fun hc1 hs1 => ?_) (fun hc1 hs1 => ?_)
 ·refine .skip ?_
  refine k6 _ _ ?_
  refine .q fun K8 k8 => ?_
  obtain ⟨s3, hj1, hs1⟩ := ob hs1
  have hR2 : ∀ t9 h9, Le 0 t9 h9 (bQ p0 :: (.str p1 :: (u2 (.unk :: (.slice (List.map encS s3) (.tip 0 1) :: (.i s1.2 :: (u16 (u4 [])))))))) [.tip (List.length s3 * 1)] → K8 t9 h9 := by
   intro t9 h9 hw
   refine k8 _ _ (AW.le hw ?_)
   clear hw
   refine .know 6 0 fun hv1 => ?_
   refine .know 0 0 fun hv2 => ?_
   refine rg 0 ?_
   refine ⟨(s1.2 + 1), by have := dn hv1; have := eP hv2; have h8 := of_decide_eq_true hc1; exact bG (by omega) (by omega), ?_⟩
   exact hKL1 _ _ _ hs1 (li (.s (.s (.u2 (.u (.s (.s (.u16 (.u4 .n)))))))))
  refine .block ?_
  refine .q fun K9 k9 => rg 0 ?_
  obtain ⟨x1, hx1, hj1⟩ := ob hj1
  refine aJ (l := p0) (f := encS) (cs := [.str (x1)]) hx1 (rfl) rfl ?_
  refine k9 _ _ ?_
  refine .aC rfl hj1 (fun hc2 hj1 => ?_) (fun hc2 hj1 => ?_)
  ·refine rg 2 ?_
   obtain ⟨x2, hx2, hj1⟩ := ob hj1
   refine aJ (l := p0) (f := encS) (cs := [.str (x2)]) hx2 (rfl) rfl ?_
   refine ⟨List.map encS ([x2]), rfl, ?_⟩
   obtain ⟨x3, hx3, hj1⟩ := ob hj1
   refine dW (l := s1.1) (ys := [x2]) (f := encS) hx3 wU rfl rfl rfl ?_
   cases hj1
   exact hR2 _ _ (wk [some 2] (.e aZ (.c rfl (.u2 (.u (.cons (.bF (aZ _ _) rfl) (.c rfl (.u16 (.u4 .nil)))))))) (.t rfl .nil) rfl)
  refine .skip ?_
  cases hj1
  exact hR2 _ _ (li (.s (.s (.u2 (.u (.s (.s (.u16 (.u4 .n)))))))))
 refine .exit ?_
 exact hR1 _ (sj hs1).symm _ _ (li (.u4 (.u (.s (.u16 (.u4 (.u .n)))))))
abbrev R1_vary_S (rec_R1_vary : Tm → (List Int) → Int → Option (Tm × Int)) : Prop := ∀ (p0 : Tm) (p1 : List Int) (p2 : Int) (r : Tm × Int), rec_R1_vary p0 p1 p2 = some r → ak Tryz.prog 74 [bg p0, mE p1, .i p2] [] (.bq [bg r.1, .i r.2]) []
theorem YP (n : Nat) (rec_R1_vary : Tm → (List Int) → Int → Option (Tm × Int)) (hrec_R1_vary : R1_vary_S rec_R1_vary) (p0 : Tm) (p1 : List Int) (p2 : Int) (r : Tm × Int) (h : w9 n rec_R1_vary p0 p1 p2 = some r) : ak Tryz.prog 74 [bg p0, mE p1, .i p2] [] (.bq [bg r.1, .i r.2]) [] := by
 unfold w9 at h
 refine ah true Tryz.func74 rfl (nt Tryz.ntmps74 rfl) fun Q hQ t ht => ?_
 conv at ht => whnf
 subst ht
 refine .q fun K1 k1 => rg 2 ?_
 refine k1 _ _ ?_
 refine .q fun K2 k2 => rg 1 ?_
 obtain ⟨x1, hx1, h⟩ := ob h
 refine cp (nN _ _ _ hx1) Dp (.cons (.same _) .nil) ?_
 refine ⟨rfl, ?_⟩
 refine k2 _ _ ?_
 refine .q fun K3 k3 => ?_
 refine .apk aD oK 2 ?_
 obtain ⟨x2, hx2, h⟩ := ob h
 refine RN (l := ([] : List Tm)) (l' := ([] : List Tm)) (ys := p0.kids) (f := aS) hx2 (aT _) Rk ?_
 refine k3 _ _ ?_
 refine .q fun K4 k4 => ?_
 obtain ⟨s1, hj1, h⟩ := ob h
 have hR1 : ∀ t9 h9, Le 0 t9 h9 (.unk :: (mE p1 :: (.i s1.1 :: (u2 (.unk :: (.ptr 0 0 :: (.unk :: (.ptr 1 0 :: (.psl 2 7 (List.length s1.2.1) :: (u64 (u16 (u8 (u4 []))))))))))))) [.box [.i 0, .str ([] : Str), .i 0, .i 0, .str ([] : Str), .slice (List.map aK ([] : List Ty)) .nils, .slice (List.map aS ([] : List Tm)) .nils], .box [.i p0.op, .str s1.2.2, .i p0.n, .i x1.kind, .str x1.name, aI x1.kids, .slice (List.map aS ([] : List Tm)) .nils], .arr 7 (List.map aS s1.2.1)] → K4 t9 h9 := by
  intro t9 h9 hw
  refine k4 _ _ (AW.le hw ?_)
  clear hw
  refine .q fun K5 k5 => .q fun K6 k6 => rg 0 ?_
  refine k6 _ _ ?_
  refine .block ?_
  obtain ⟨o1, ho1, h⟩ := ob h
  have hR2 : ∀ s3 : Int × (List Tm), o1 = .nx s3 → ∀ t9 h9, Le 0 t9 h9 (u2 (.i s3.1 :: (u2 (.unk :: (.ptr 0 0 :: (.unk :: (.ptr 1 0 :: (u64 (u16 (u8 (u4 (.unk :: [])))))))))))) [.box [.i 0, .str ([] : Str), .i 0, .i 0, .str ([] : Str), .slice (List.map aK ([] : List Ty)) .nils, .slice (List.map aS ([] : List Tm)) .nils], .box [.i p0.op, .str s1.2.2, .i p0.n, .i x1.kind, .str x1.name, aI x1.kids, .slice (List.map aS s3.2) (.tip 2 7)], .tip (List.length s3.2 * 7)] → K5 t9 h9 := by
   intro s3 ho
   subst ho
   dsimp only [LR.el] at h
   intro t9 h9 hw
   refine k5 _ _ (AW.le hw ?_)
   refine .q fun K7 k7 => rg 0 ?_
   refine k7 _ _ ?_
   refine .ret ?_
   have e9 := sj h
   subst e9
   refine hQ _ _ _ (aj aD (fun g => by simp) ?_)
   conv => whnf
   try rfl
  refine .loopS (xO n rec_R1_vary p1 s1) (fun (s2 : Int × Int × (List Tm)) => (.unk :: (mE p1 :: (.i s2.1 :: (u2 (.unk :: (.ptr 0 0 :: (.unk :: (.ptr 1 0 :: (.psl 2 7 (List.length s1.2.1) :: (u2 (.i s2.2.1 :: (u64 (u16 (u8 (.unk :: [])))))))))))))))) (fun (s2 : Int × Int × (List Tm)) => [.box [.i 0, .str ([] : Str), .i 0, .i 0, .str ([] : Str), .slice (List.map aK ([] : List Ty)) .nils, .slice (List.map aS ([] : List Tm)) .nils], .box [.i p0.op, .str s1.2.2, .i p0.n, .i x1.kind, .str x1.name, aI x1.kids, .slice (List.map aS s2.2.2) (.tip 3 7)], .arr 7 (List.map aS s1.2.1), .tip (List.length s2.2.2 * 7)]) ho1 (fun _ => rfl) (wk [some 0, some 1, some 2, none] (.u (.e aQ (.c rfl (.u2 (.u (.c rfl (.u (.c rfl (.c rfl (.u2 (.c rfl (.u64 (.u16 (.u8 (.u .nil))))))))))))))) (.b rfl (.c rfl (.c rfl (.c rfl (.c rfl (.c rfl (.c rfl (.c rfl .nil))))))) (.b rfl (.c rfl (.c rfl (.c rfl (.c rfl (.c rfl (.e aB (.cons (.nils _ _) .nil))))))) (.old (.arr' aN (aT _)) (.w rfl .nil)))) rfl) ?_
  intro n1 s2 hs1 KL1 hKL1
  unfold xO at hs1
  refine .q fun K8 k8 => .q fun K9 k9 => rg 0 ?_
  refine k9 _ _ ?_
  refine .aC rfl hs1 (fun hc1 hs1 => ?_) (fun hc1 hs1 => ?_)
  ·refine .skip ?_
   refine k8 _ _ ?_
   refine .q fun K10 k10 => ?_
   refine .block ?_
   refine .q fun K11 k11 => rg 1 ?_
   refine k11 _ _ ?_
   refine .q fun K12 k12 => rg 0 ?_
   obtain ⟨x3, hx3, hs1⟩ := ob hs1
   refine Uk (l := s1.2.1) (l0 := s1.2.1) hx3 (by simp [upd]) ?_
   refine ldp (l := s1.2.1) (f := aS) (cs := [.i x3.op, .str x3.name, .i x3.n, .i x3.ty.kind, .str x3.ty.name, aI x3.ty.kids, bn x3.kids]) hx3 (aX x3) (by decide) ?_
   obtain ⟨x4, hx4, hs1⟩ := ob hs1
   refine cp (hrec_R1_vary _ _ _ _ hx4) alV (.cons (.same _) (.cons (.same _) (.cons (.same _) .nil))) ?_
   refine k12 _ _ ?_
   refine rg 2 ?_
   refine ⟨List.map aS ([x4.1]), by simp only [List.map_cons, List.map_nil, aX]; rfl, ?_⟩
   obtain ⟨x5, hx5, hs1⟩ := ob hs1
   refine dW (l := s2.2.2) (ys := [x4.1]) (f := aS) hx5 Rk rfl rfl rfl ?_
   refine k10 _ _ ?_
   refine .know 12 0 fun hv1 => ?_
   refine .know 80 0 fun hv2 => ?_
   refine rg 0 ?_
   refine ⟨(s2.2.1 + 1), by have := dn hv1; have := dn hv2; have h8 := of_decide_eq_true hc1; exact bG (by omega) (by omega), ?_⟩
   exact hKL1 _ _ _ hs1 (wk [some 0, some 1, some 2, some 6] (.u (.e aQ (.c rfl (.u2 (.u (.c rfl (.u (.c rfl (.c rfl (.u2 (.c rfl (.u64 (.u16 (.u8 (.u .nil))))))))))))))) (.b rfl (.c rfl (.c rfl (.c rfl (.c rfl (.c rfl (.c rfl (.c rfl .nil))))))) (.b rfl (.c rfl (.c rfl (.c rfl (.c rfl (.c rfl (.e aB (.cons (.bF (aN _ _) rfl) .nil))))))) (.old (.arr' aN (aT _)) (.t rfl .nil)))) rfl)
  refine .exit ?_
  exact hR2 _ (sj hs1).symm _ _ (wk [some 0, some 1, some 3] (.u2 (.c rfl (.u2 (.u (.c rfl (.u (.c rfl (.u64 (.u16 (.u8 (.u4 (.u .nil)))))))))))) (.b rfl (.c rfl (.c rfl (.c rfl (.c rfl (.c rfl (.c rfl (.c rfl .nil))))))) (.b rfl (.c rfl (.c rfl (.c rfl (.c rfl (.c rfl (.e aB (.cons (.bF (aN _ _) rfl) .nil))))))) (.t rfl .nil))) rfl)
 refine .q fun K13 k13 => rg 0 ?_
 obtain ⟨x6, hx6, hj1⟩ := ob hj1
 refine au (qD _ _ _ hx6) E8 (.cons (.same _) .nil) (fun g => rfl) (fun g => rfl) ?_
 refine k13 _ _ ?_
 refine .aC rfl hj1 (fun hc2 hj1 => ?_) (fun hc2 hj1 => ?_)
 ·refine .q fun K14 k14 => rg 1 ?_
  refine ⟨List.map encS ([p0.name, ([120] : Str), ([121] : Str), ([122] : Str), ([110] : Str), ([120, 49] : Str), ([97] : Str), ([102] : Str)]), by kernel_rfl, ?_⟩
  refine k14 _ _ ?_
  refine .q fun K15 k15 => rg 0 ?_
  refine k15 _ _ ?_
  refine .q fun K16 k16 => ?_
  obtain ⟨s4, hj2, hj1⟩ := ob hj1
  have hR3 : ∀ t9 h9, Le 0 t9 h9 (.unk :: (mE p1 :: (.i p2 :: (.ptr 0 0 :: (u2 (.ptr 1 0 :: (.unk :: (.ptr 2 0 :: (.psl 3 7 (List.length x2) :: (.slice (List.map encS ([p0.name, ([120] : Str), ([121] : Str), ([122] : Str), ([110] : Str), ([120, 49] : Str), ([97] : Str), ([102] : Str)])) (.tip 4 1) :: (.i s4 :: (u64 (u16 (u8 (u2 []))))))))))))))) [.box [.i p0.op, .str p0.name, .i p0.n, .i p0.ty.kind, .str p0.ty.name, aI p0.ty.kids, bn p0.kids], .box [.i 0, .str ([] : Str), .i 0, .i 0, .str ([] : Str), .slice (List.map aK ([] : List Ty)) .nils, .slice (List.map aS ([] : List Tm)) .nils], .box [.i p0.op, .str p0.name, .i p0.n, .i x1.kind, .str x1.name, aI x1.kids, .slice (List.map aS ([] : List Tm)) .nils], .arr 7 (List.map aS x2), .tip (List.length ([p0.name, ([120] : Str), ([121] : Str), ([122] : Str), ([110] : Str), ([120, 49] : Str), ([97] : Str), ([102] : Str)]) * 1)] → K16 t9 h9 := by
   intro t9 h9 hw
   refine k16 _ _ (AW.le hw ?_)
   clear hw
   refine .q fun K17 k17 => rg 0 ?_
   refine ⟨(IntKind.wrap .i64 (p2 + 1)), rfl, ?_⟩
   refine k17 _ _ ?_
   refine .q fun K18 k18 => rg 0 ?_
   obtain ⟨x7, hx7, hj1⟩ := ob hj1
   refine aJ (l := [p0.name, ([120] : Str), ([121] : Str), ([122] : Str), ([110] : Str), ([120, 49] : Str), ([97] : Str), ([102] : Str)]) (f := encS) (cs := [.str (x7)]) hx7 (rfl) rfl ?_
   obtain ⟨x8, hx8, hj1⟩ := ob hj1
   refine Uk (l := x2) (l0 := x2) hx8 (by simp [upd]) ?_
   refine ldp (l := x2) (f := aS) (cs := [.i x8.op, .str x8.name, .i x8.n, .i x8.ty.kind, .str x8.ty.name, aI x8.ty.kids, bn x8.kids]) hx8 (aX x8) (by decide) ?_
   obtain ⟨x9, hx9, hj1⟩ := ob hj1
   refine cp (MR _ _ _ hx9) ad6 (.cons (.same _) .nil) ?_
   obtain ⟨x10, hx10, hj1⟩ := ob hj1
   refine cp (aew _ _ _ _ hx10) apT (.cons (.same _) (.cons (.same _) .nil)) ?_
   obtain ⟨x11, hx11, hj1⟩ := ob hj1
   refine au (Uo _ _ _ _ hx11) ahw (.cons (.same _) (.cons (.same _) .nil)) (fun g => by simp) (fun g => rfl) ?_
   refine ⟨rfl, ?_⟩
   refine k18 _ _ ?_
   refine rg 1 ?_
   obtain ⟨x12, hx12, hj1⟩ := ob hj1
   refine Uk (l := x2) (l0 := x2) hx12 (by simp [upd]) ?_
   refine ldp (l := x2) (f := aS) (cs := [.i x12.op, .str x12.name, .i x12.n, .i x12.ty.kind, .str x12.ty.name, aI x12.ty.kids, bn x12.kids]) hx12 (aX x12) (by decide) ?_
   refine ⟨List.map aU ([(S_api_Binding.mk p0.name (Tm.mk 20 x11 0 (Ty.mk 0 ([] : Str) ([])) ([])))]), rfl, ?_⟩
   obtain ⟨x13, hx13, hj1⟩ := ob hj1
   refine cp (Uz _ _ _ _ hx13) OQ (.cons (.same _) (.cons (.share _ _) .nil)) ?_
   obtain ⟨x14, hx14, hj1⟩ := ob hj1
   refine Uk (l := x2) (l0 := x2) hx14 (by simp [upd]) ?_
   refine stp (l := x2) (f := aS) (v := x13) hx14 ((aX _).symm) (by decide) ?_
   refine ⟨rfl, ?_⟩
   cases hj1
   exact hR1 _ _ (wk [some 1, some 2, some 3] (.u (.e aQ (.c rfl (.u2 (.u (.c rfl (.u (.c rfl (.cons (.same (am0 (by simp [upd]) rfl)) (.u64 (.u16 (.u8 (.u4 .nil))))))))))))) (.b rfl (.c rfl (.c rfl (.c rfl (.c rfl (.c rfl (.c rfl (.c rfl .nil))))))) (.b rfl (.c rfl (.c rfl (.c rfl (.c rfl (.c rfl (.e aB (.c rfl .nil))))))) (.old (.arr' aN (aT _)) .nil))) rfl)
  refine .q fun K19 k19 => rg 0 ?_
  refine aW (l := p1) (f := encI) ?_
  refine k19 _ _ ?_
  refine .aC rfl hj2 (fun hc3 hj2 => ?_) (fun hc3 hj2 => ?_)
  ·refine rg 0 ?_
   refine aW (l := p1) (f := encI) ?_
   obtain ⟨x15, hx15, hj2⟩ := ob hj2
   refine aj9 hx15 ?_
   obtain ⟨x16, hx16, hj2⟩ := ob hj2
   refine aJ (l := p1) (f := encI) (cs := [.i (x16)]) hx16 (rfl) rfl ?_
   refine aW (l := [p0.name, ([120] : Str), ([121] : Str), ([122] : Str), ([110] : Str), ([120, 49] : Str), ([97] : Str), ([102] : Str)]) (f := encS) ?_
   obtain ⟨x17, hx17, hj2⟩ := ob hj2
   have e17 := irem_eq hx17
   subst e17
   conv => whnf
   cases hj2
   exact z1x0 (hR3 _ _)
  refine .skip ?_
  cases hj2
  exact z1x0 (hR3 _ _)
 refine .skip ?_
 cases hj1
 exact hR1 _ _ (wk [some 1, some 2, some 4] (.u (.e aQ (.c rfl (.u2 (.u (.c rfl (.u (.c rfl (.c rfl (.u64 (.u16 (.u8 (.u4 .nil))))))))))))) (.b rfl (.c rfl (.c rfl (.c rfl (.c rfl (.c rfl (.c rfl (.c rfl .nil))))))) (.b rfl (.c rfl (.c rfl (.c rfl (.c rfl (.c rfl (.e aB (.c rfl .nil))))))) (.old (.arr' aN (aT _)) .nil))) rfl)
theorem agR (n : Nat) : R1_vary_S (o8 n) := by
 induction n with
 | zero => exact (fun p0 p1 p2 r h => by unfold o8 at h; cases h)
 | succ n ih =>
  exact (fun p0 p1 p2 r h => YP n _ ih p0 p1 p2 r (by unfold o8 at h; exact h))
theorem aja (n : Nat) : R1_vary_S (o8 n) := (agR n)
theorem ajx (n : Nat) (p0 : Tm) (p1 : List Int) (r : Tm) (h : RH n p0 p1 = some r) : ak Tryz.prog 22 [bg p0, mE p1] [] (bg r) [] := by
 unfold RH at h
 refine ah true Tryz.func22 rfl (nt Tryz.ntmps22 rfl) fun Q hQ t ht => ?_
 conv at ht => whnf
 subst ht
 refine .q fun K1 k1 => rg 2 ?_
 refine k1 _ _ ?_
 refine .q fun K2 k2 => rg 1 ?_
 obtain ⟨x1, hx1, h⟩ := ob h
 refine cp (aja _ _ _ _ _ hx1) alV (.cons (.same _) (.cons (.same _) (.cons (.same _) .nil))) ?_
 refine k2 _ _ ?_
 refine .q fun K3 k3 => rg 0 ?_
 refine k3 _ _ ?_
 refine .ret ?_
 have e9 := sj h
 subst e9
 refine hQ _ _ _ (aj aD (fun g => by simp) ?_)
 conv => whnf
 try rfl
theorem WM (n : Nat) (p0 : Str) (p1 : List Str) (r : Int) (h : CV n p0 p1 = some r) : ak Tryz.prog 151 [.str p0, bQ p1] [] (.i r) [] := by
 unfold CV at h
 refine ah true Tryz.func151 rfl (nt Tryz.ntmps151 rfl) fun Q hQ t ht => ?_
 conv at ht => whnf
 subst ht
 refine .q fun K1 k1 => rg 0 ?_
 refine k1 _ _ ?_
 refine .q fun K2 k2 => .q fun K3 k3 => ?_
 refine .know 1 0 fun hv1 => ?_
 refine rg 0 ?_
 refine aW (l := p1) (f := encS) ?_
 refine ⟨((p1.length : Int) - 1), by have := eP hv1; exact bG (by omega) (by omega), ?_⟩
 refine k3 _ _ ?_
 refine .block ?_
 obtain ⟨o1, ho1, h⟩ := ob h
 have hR1 : ∀ s2 : Unit, o1 = .nx s2 → ∀ t9 h9, Le 0 t9 h9 (u16 (u4 [])) [] → K2 t9 h9 := by
  intro s2 ho
  subst ho
  dsimp only [LR.el] at h
  intro t9 h9 hw
  refine k2 _ _ (AW.le hw ?_)
  refine .q fun K4 k4 => rg 0 ?_
  refine k4 _ _ ?_
  refine .ret ?_
  have e9 := sj h
  subst e9
  refine hQ _ _ _ (aj aD (fun g => rfl) ?_)
  conv => whnf
 refine .loopS (Ae n p0 p1) (fun (s1 : Int) => (.str p0 :: (bQ p1 :: (u2 (.unk :: (.i s1 :: (u8 (u4 (u2 []))))))))) (fun (s1 : Int) => []) ho1 (fun _ => rfl) (li (.s (.s (.u2 (.u (.s (.u8 (.u4 (.u2 .n))))))))) ?_
 intro n1 s1 hs1 KL1 hKL1
 unfold Ae at hs1
 refine .q fun K5 k5 => .q fun K6 k6 => rg 0 ?_
 refine k6 _ _ ?_
 refine .aC rfl hs1 (fun hc1 hs1 => ?_) (fun hc1 hs1 => ?_)
 ·refine .skip ?_
  refine k5 _ _ ?_
  refine .q fun K7 k7 => ?_
  refine .block ?_
  refine .q fun K8 k8 => rg 0 ?_
  obtain ⟨x1, hx1, hs1⟩ := ob hs1
  refine aJ (l := p1) (f := encS) (cs := [.str (x1)]) hx1 (rfl) rfl ?_
  refine k8 _ _ ?_
  refine .aC rfl hs1 (fun hc2 hs1 => ?_) (fun hc2 hs1 => ?_)
  ·refine .q fun K9 k9 => rg 0 ?_
   refine k9 _ _ ?_
   refine .ret ?_
   have e9 := sj hs1
   subst e9
   dsimp only [LR.el] at h
   have e9 := sj h
   subst e9
   refine hQ _ _ _ (aj aD (fun g => rfl) ?_)
   conv => whnf
  refine .skip ?_
  refine k7 _ _ ?_
  refine .know 5 0 fun hv2 => ?_
  refine rg 0 ?_
  refine ⟨(s1 - 1), by have := dn hv2; have h8 := of_decide_eq_true hc1; exact bG (by omega) (by omega), ?_⟩
  exact hKL1 _ _ _ hs1 (li (.s (.s (.u2 (.u (.s (.u8 (.u4 (.u2 .n)))))))))
 refine .exit ?_
 exact hR1 _ (sj hs1).symm _ _ (li (.u16 (.u4 .n)))
end Abs
end Go.Proofs.YtiiaccpcoclklaaGreat
