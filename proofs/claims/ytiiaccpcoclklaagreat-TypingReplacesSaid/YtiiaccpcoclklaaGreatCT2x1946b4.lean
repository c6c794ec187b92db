/-
  Contracts of Go functions (printed). Conditions: none.
-/
import Derived.KernelRfl
import Derived.Test.YtiiaccpcoclklaaGreatCAbs38x04b7ad
import Derived.Test.YtiiaccpcoclklaaGreatCDfxa6bced
import Derived.Test.YtiiaccpcoclklaaGreatCTDx83fdfc
import Derived.Test.YtiiaccpcoclklaaGreatCT1xaae324
set_option linter.unusedSimpArgs false
set_option linter.unusedVariables false
namespace Go.Proofs.YtiiaccpcoclklaaGreat
namespace Abs
open Go Go.Proofs
set_option maxRecDepth 100000
set_option maxHeartbeats 40000000
abbrev kY (rec_slices_IndexFunc_Type : (List Ty) → Int → Int → Int → Int → Option (Int × Int)) : Prop := ∀ (p0 : List Ty) (p1 : Int) (p2 : Int) (p3 : Int) (p4 : Int) (r : Int × Int), rec_slices_IndexFunc_Type p0 p1 p2 p3 p4 = some r → aA Tryz.prog 245 [aH p0, .func 244 [.ptr 0 0, .ptr 2 0]] [.box [.ptr 1 0], .box [.i p1, .i p2, .i p3], .box [.i p4]] (.i r.1) [.box [.ptr 1 0], .box [.i r.2, .i p2, .i p3], .box [.i p4]]
abbrev jr (rec_slices_ContainsFunc_Type : (List Ty) → Int → Int → Int → Int → Option (Bool × Int)) : Prop := ∀ (p0 : List Ty) (p1 : Int) (p2 : Int) (p3 : Int) (p4 : Int) (r : Bool × Int), rec_slices_ContainsFunc_Type p0 p1 p2 p3 p4 = some r → aA Tryz.prog 178 [aH p0, .func 244 [.ptr 0 0, .ptr 2 0]] [.box [.ptr 1 0], .box [.i p1, .i p2, .i p3], .box [.i p4]] (.bool r.1) [.box [.ptr 1 0], .box [.i r.2, .i p2, .i p3], .box [.i p4]]
abbrev jh (rec_term_measure_typeFits : Int → Int → Int → Ty → Int → Bool → Option (Bool × Int)) : Prop := ∀ (p0 : Int) (p1 : Int) (p2 : Int) (p3 : Ty) (p4 : Int) (p5 : Bool) (r : Bool × Int), rec_term_measure_typeFits p0 p1 p2 p3 p4 p5 = some r → aA Tryz.prog 176 [.ptr 0 0, aU p3, .i p4, .bool p5] [.box [.i p0, .i p1, .i p2]] (.bool r.1) [.box [.i r.2, .i p1, .i p2]]
abbrev jQ (rec_term_measure_typeFits_1 : Ty → Int → Int → Int → Int → Option (Bool × Int)) : Prop := ∀ (p0 : Ty) (p1 : Int) (p2 : Int) (p3 : Int) (p4 : Int) (r : Bool × Int), rec_term_measure_typeFits_1 p0 p1 p2 p3 p4 = some r → aA Tryz.prog 244 [aU p0, .ptr 0 0, .ptr 2 0] [.box [.ptr 1 0], .box [.i p1, .i p2, .i p3], .box [.i p4]] (.bool r.1) [.box [.ptr 1 0], .box [.i r.2, .i p2, .i p3], .box [.i p4]]
theorem BJ (n : Nat) (rec_slices_IndexFunc_Type : (List Ty) → Int → Int → Int → Int → Option (Int × Int)) (rec_slices_ContainsFunc_Type : (List Ty) → Int → Int → Int → Int → Option (Bool × Int)) (rec_term_measure_typeFits : Int → Int → Int → Ty → Int → Bool → Option (Bool × Int)) (rec_term_measure_typeFits_1 : Ty → Int → Int → Int → Int → Option (Bool × Int)) (hrec_slices_IndexFunc_Type : kY rec_slices_IndexFunc_Type) (hrec_slices_ContainsFunc_Type : jr rec_slices_ContainsFunc_Type) (hrec_term_measure_typeFits : jh rec_term_measure_typeFits) (hrec_term_measure_typeFits_1 : jQ rec_term_measure_typeFits_1) (p0 : List Ty) (p1 : Int) (p2 : Int) (p3 : Int) (p4 : Int) (r : Int × Int) (h : fO n rec_slices_IndexFunc_Type rec_slices_ContainsFunc_Type rec_term_measure_typeFits rec_term_measure_typeFits_1 p0 p1 p2 p3 p4 = some r) : aA Tryz.prog 245 [aH p0, .func 244 [.ptr 0 0, .ptr 2 0]] [.box [.ptr 1 0], .box [.i p1, .i p2, .i p3], .box [.i p4]] (.i r.1) [.box [.ptr 1 0], .box [.i r.2, .i p2, .i p3], .box [.i p4]] := by
 unfold fO at h
 refine ah true Tryz.func245 rfl (nt Tryz.ntmps245 rfl) fun Q hQ t ht => ?_
 conv at ht => whnf
 subst ht
 refine .q fun K1 k1 => rg 0 ?_
 refine k1 _ _ ?_
 refine .q fun K2 k2 => .q fun K3 k3 => rg 0 ?_
 refine bB (l := p0) (f := aF) ?_
 refine k3 _ _ ?_
 refine .block ?_
 obtain ⟨o1, ho1, h⟩ := ob h
 have hR1 : ∀ s2 : Int, o1 = .nx s2 → ∀ t9 h9, Le 3 t9 h9 (u16 (u2 (.unk :: []))) [.box [.ptr 1 0], .box [.i s2, .i p2, .i p3], .box [.i p4]] → K2 t9 h9 := by
  intro s2 ho
  subst ho
  dsimp only [LR.el] at h
  intro t9 h9 hw
  refine k2 _ _ (AW.le hw ?_)
  refine .q fun K4 k4 => rg 0 ?_
  refine k4 _ _ ?_
  refine .ret ?_
  have e9 := sj h
  subst e9
  refine hQ _ _ _ (dz (u4 (.i (-1) :: (u8 (u4 (u2 []))))) [.box [.ptr 1 0], .box [.i s2, .i p2, .i p3], .box [.i p4]] (wk [some 0, some 1, some 2] (.u4 (.c rfl (.u8 (.u4 (.u2 .nil))))) (.b rfl (.c rfl .nil) (.b rfl (.c rfl (.c rfl (.c rfl .nil))) (.b rfl (.c rfl .nil) .nil))) rfl) (bG aC [0, 1, 2] rfl (.cons (rfl) (.cons (rfl) (.cons (rfl) .nil))) ?_))
  conv => whnf
  first | rfl | (simp; done) | (simp; rfl) | (simp; constructor <;> rfl)
 refine .loopS (kC n rec_slices_IndexFunc_Type rec_slices_ContainsFunc_Type rec_term_measure_typeFits rec_term_measure_typeFits_1 p0 p2 p3 p4) (fun (s1 : Int × Int) => (aH p0 :: (.func 244 [.ptr 0 0, .ptr 2 0] :: (u4 (.unk :: (.i (p0.length : Int) :: (.i s1.1 :: (u8 (u2 []))))))))) (fun (s1 : Int × Int) => [.box [.ptr 1 0], .box [.i s1.2, .i p2, .i p3], .box [.i p4]]) ho1 (fun _ => rfl) (li (.s (.s (.u4 (.u (.s (.s (.u8 (.u2 .n))))))))) ?_
 intro n1 s1 hs1 KL1 hKL1
 unfold kC at hs1
 refine .q fun K5 k5 => rg 0 ?_
 refine k5 _ _ ?_
 refine .q fun K6 k6 => ?_
 refine .aB rfl hs1 (fun hc1 hs1 => ?_) (fun hc1 hs1 => ?_)
 ·refine .skip ?_
  refine k6 _ _ ?_
  refine .q fun K7 k7 => ?_
  refine .block ?_
  refine .q fun K8 k8 => rg 0 ?_
  refine k8 _ _ ?_
  refine .q fun K9 k9 => rg 0 ?_
  obtain ⟨x1, hx1, hs1⟩ := ob hs1
  refine aI (l := p0) (f := aF) (cs := [.i ((x1).kind), .str ((x1).name), aH ((x1).kids)]) hx1 (aL x1) rfl ?_
  obtain ⟨x2, hx2, hs1⟩ := ob hs1
  refine bU [0, 1, 2] [] [aU x1, .ptr 0 0, .ptr 2 0] [aU x1, .ptr 0 0, .ptr 2 0] (hrec_term_measure_typeFits_1 _ _ _ _ _ _ hx2) als rfl (.cons (rfl) (.cons (rfl) (.cons (rfl) .nil))) (by simp; try decide) (.cons (.same _) (.cons (.same _) (.cons (.same _) .nil))) (rn := .bool x2.1) (rfl) (Hn := [.box [.ptr 1 0], .box [.i x2.2, .i p2, .i p3], .box [.i p4]]) ((bK (rfl) (bK (rfl) (bK (rfl) rfl)))) ?_
  refine k9 _ _ ?_
  refine .aB rfl hs1 (fun hc2 hs1 => ?_) (fun hc2 hs1 => ?_)
  ·refine .q fun K10 k10 => rg 0 ?_
   refine k10 _ _ ?_
   refine .ret ?_
   have e9 := sj hs1
   subst e9
   dsimp only [LR.el] at h
   have e9 := sj h
   subst e9
   refine hQ _ _ _ (dz (u4 (.i s1.1 :: (u8 (u4 (u2 []))))) [.box [.ptr 1 0], .box [.i x2.2, .i p2, .i p3], .box [.i p4]] (wk [some 0, some 1, some 2] (.u4 (.c rfl (.u8 (.u4 (.u2 .nil))))) (.b rfl (.c rfl .nil) (.b rfl (.c rfl (.c rfl (.c rfl .nil))) (.b rfl (.c rfl .nil) .nil))) rfl) (bG aC [0, 1, 2] rfl (.cons (rfl) (.cons (rfl) (.cons (rfl) .nil))) ?_))
   conv => whnf
   first | rfl | (simp; done) | (simp; rfl) | (simp; constructor <;> rfl)
  refine .skip ?_
  refine k7 _ _ ?_
  refine .know 5 0 fun hv1 => ?_
  refine .know 0 0 fun hv2 => ?_
  refine rg 0 ?_
  refine ⟨(s1.1 + 1), by have := dK hv1; have := fU hv2; have h8 := of_decide_eq_true hc1; exact bI (by omega) (by omega), ?_⟩
  exact hKL1 _ _ _ hs1 (li (.s (.s (.u4 (.u (.s (.s (.u8 (.u2 .n)))))))))
 refine .exit ?_
 exact hR1 _ (sj hs1).symm _ _ (li (.u16 (.u2 (.u .n))))
theorem zU (n : Nat) (rec_slices_IndexFunc_Type : (List Ty) → Int → Int → Int → Int → Option (Int × Int)) (rec_slices_ContainsFunc_Type : (List Ty) → Int → Int → Int → Int → Option (Bool × Int)) (rec_term_measure_typeFits : Int → Int → Int → Ty → Int → Bool → Option (Bool × Int)) (rec_term_measure_typeFits_1 : Ty → Int → Int → Int → Int → Option (Bool × Int)) (hrec_slices_IndexFunc_Type : kY rec_slices_IndexFunc_Type) (hrec_slices_ContainsFunc_Type : jr rec_slices_ContainsFunc_Type) (hrec_term_measure_typeFits : jh rec_term_measure_typeFits) (hrec_term_measure_typeFits_1 : jQ rec_term_measure_typeFits_1) (p0 : List Ty) (p1 : Int) (p2 : Int) (p3 : Int) (p4 : Int) (r : Bool × Int) (h : iM n rec_slices_IndexFunc_Type rec_slices_ContainsFunc_Type rec_term_measure_typeFits rec_term_measure_typeFits_1 p0 p1 p2 p3 p4 = some r) : aA Tryz.prog 178 [aH p0, .func 244 [.ptr 0 0, .ptr 2 0]] [.box [.ptr 1 0], .box [.i p1, .i p2, .i p3], .box [.i p4]] (.bool r.1) [.box [.ptr 1 0], .box [.i r.2, .i p2, .i p3], .box [.i p4]] := by
 unfold iM at h
 refine ah true Tryz.func178 rfl (nt Tryz.ntmps178 rfl) fun Q hQ t ht => ?_
 conv at ht => whnf
 subst ht
 refine .q fun K1 k1 => rg 0 ?_
 refine k1 _ _ ?_
 refine .q fun K2 k2 => rg 0 ?_
 obtain ⟨x1, hx1, h⟩ := ob h
 refine bU [0, 1, 2] [] [aH p0, .func 244 [.ptr 0 0, .ptr 2 0]] [aH p0, .func 244 [.ptr 0 0, .ptr 2 0]] (hrec_slices_IndexFunc_Type _ _ _ _ _ _ hx1) O1 rfl (.cons (rfl) (.cons (rfl) (.cons (rfl) .nil))) (by simp; try decide) (.cons (.same _) (.cons (.same _) .nil)) (rn := .i x1.1) (rfl) (Hn := [.box [.ptr 1 0], .box [.i x1.2, .i p2, .i p3], .box [.i p4]]) ((bK (rfl) (bK (rfl) (bK (rfl) rfl)))) ?_
 refine k2 _ _ ?_
 refine .ret ?_
 have e9 := sj h
 subst e9
 refine hQ _ _ _ (dz (u4 (.bool (decide (0 ≤ x1.1)) :: (u4 []))) [.box [.ptr 1 0], .box [.i x1.2, .i p2, .i p3], .box [.i p4]] (wk [some 0, some 1, some 2] (.u4 (.c rfl (.u4 .nil))) (.b rfl (.c rfl .nil) (.b rfl (.c rfl (.c rfl (.c rfl .nil))) (.b rfl (.c rfl .nil) .nil))) rfl) (bG aC [0, 1, 2] rfl (.cons (rfl) (.cons (rfl) (.cons (rfl) .nil))) ?_))
 conv => whnf
 first | rfl | (simp; done) | (simp; rfl) | (simp; constructor <;> rfl)
theorem BG (n : Nat) (rec_slices_IndexFunc_Type : (List Ty) → Int → Int → Int → Int → Option (Int × Int)) (rec_slices_ContainsFunc_Type : (List Ty) → Int → Int → Int → Int → Option (Bool × Int)) (rec_term_measure_typeFits : Int → Int → Int → Ty → Int → Bool → Option (Bool × Int)) (rec_term_measure_typeFits_1 : Ty → Int → Int → Int → Int → Option (Bool × Int)) (hrec_slices_IndexFunc_Type : kY rec_slices_IndexFunc_Type) (hrec_slices_ContainsFunc_Type : jr rec_slices_ContainsFunc_Type) (hrec_term_measure_typeFits : jh rec_term_measure_typeFits) (hrec_term_measure_typeFits_1 : jQ rec_term_measure_typeFits_1) (p0 : Int) (p1 : Int) (p2 : Int) (p3 : Ty) (p4 : Int) (p5 : Bool) (r : Bool × Int) (h : jA n rec_slices_IndexFunc_Type rec_slices_ContainsFunc_Type rec_term_measure_typeFits rec_term_measure_typeFits_1 p0 p1 p2 p3 p4 p5 = some r) : aA Tryz.prog 176 [.ptr 0 0, aU p3, .i p4, .bool p5] [.box [.i p0, .i p1, .i p2]] (.bool r.1) [.box [.i r.2, .i p1, .i p2]] := by
 unfold jA at h
 refine ah true Tryz.func176 rfl (nt Tryz.ntmps176 rfl) fun Q hQ t ht => ?_
 conv at ht => whnf
 subst ht
 refine .q fun K1 k1 => rg 3 ?_
 refine k1 _ _ ?_
 refine .q fun K2 k2 => .q fun K3 k3 => rg 0 ?_
 obtain ⟨x1, hx1, h⟩ := ob h
 refine bU [0] [] [.ptr 0 0, .i p4] [.ptr 0 0, .i p4] (Ae _ _ _ _ _ _ hx1) adx rfl (.cons (rfl) .nil) (rfl) (.cons (.same _) (.cons (.same _) .nil)) (rn := .bool x1.1) (rfl) (Hn := [.box [.i x1.2, .i p1, .i p2]]) ((bK (rfl) rfl)) ?_
 refine k3 _ _ ?_
 refine .aB rfl h (fun hc1 h => ?_) (fun hc1 h => ?_)
 ·refine .q fun K4 k4 => rg 0 ?_
  refine k4 _ _ ?_
  refine .ret ?_
  have e9 := sj h
  subst e9
  refine hQ _ _ _ (dz (u8 (.bool false :: (u32 (u8 (u2 []))))) [.box [.i x1.2, .i p1, .i p2]] (wk [some 0] (.u8 (.c rfl (.u32 (.u8 (.u2 .nil))))) (.b rfl (.c rfl (.c rfl (.c rfl .nil))) .nil) rfl) (bG aC [0] rfl (.cons (rfl) .nil) ?_))
  conv => whnf
  first | rfl | (simp; done) | (simp; rfl) | (simp; constructor <;> rfl)
 refine .skip ?_
 refine k2 _ _ ?_
 refine .q fun K5 k5 => rg 0 ?_
 refine k5 _ _ ?_
 refine .q fun K6 k6 => ?_
 obtain ⟨o1, hj1, h⟩ := ob h
 have hR1 : ∀ s1 : Int, o1 = .nx s1 → ∀ t9 h9, Le 1 t9 h9 (u4 (.ptr 1 0 :: (.ptr 2 0 :: (.ptr 3 0 :: (u2 (.i s1 :: (u32 (u8 (.unk :: []))))))))) [.box [.i x1.2, .i p1, .i p2], .box [.ptr 0 0], .box [.i p3.kind, .str p3.name, aH p3.kids], .box [.i p4]] → K6 t9 h9 := by
  intro s1 ho
  subst ho
  dsimp only [LR.el] at h
  intro t9 h9 hw
  refine k6 _ _ (AW.le hw ?_)
  clear hw
  refine .q fun K7 k7 => .q fun K8 k8 => ?_
  obtain ⟨s2, hj2, h⟩ := ob h
  have hR2 : ∀ t9 h9, Le 1 t9 h9 (u4 (.ptr 1 0 :: (.ptr 2 0 :: (.ptr 3 0 :: (u32 (u4 (u2 (.bool s2 :: (u4 (.unk :: [])))))))))) [.box [.i x1.2, .i p1, .i p2], .box [.ptr 0 0], .box [.i p3.kind, .str p3.name, aH p3.kids], .box [.i p4]] → K8 t9 h9 := by
   intro t9 h9 hw
   refine k8 _ _ (AW.le hw ?_)
   clear hw
   refine .aB rfl h (fun hc2 h => ?_) (fun hc2 h => ?_)
   ·refine .q fun K9 k9 => rg 0 ?_
    refine k9 _ _ ?_
    refine .ret ?_
    have e9 := sj h
    subst e9
    refine hQ _ _ _ (dz (u8 (.bool false :: (u32 (u8 (u2 []))))) [.box [.i x1.2, .i p1, .i p2]] (wk [some 0] (.u8 (.c rfl (.u32 (.u8 (.u2 .nil))))) (.b rfl (.c rfl (.c rfl (.c rfl .nil))) .nil) rfl) (bG aC [0] rfl (.cons (rfl) .nil) ?_))
    conv => whnf
    first | rfl | (simp; done) | (simp; rfl) | (simp; constructor <;> rfl)
   refine .skip ?_
   refine k7 _ _ ?_
   refine .q fun K10 k10 => rg 0 ?_
   obtain ⟨x2, hx2, h⟩ := ob h
   refine bU [1, 0, 3] [] [aH p3.kids, .func 244 [.ptr 0 0, .ptr 2 0]] [aH p3.kids, .func 244 [.ptr 1 0, .ptr 3 0]] (hrec_slices_ContainsFunc_Type _ _ _ _ _ _ hx2) O4 rfl (.cons (rfl) (.cons (rfl) (.cons (rfl) .nil))) (by simp; try decide) (.cons (.same _) (.cons (.same _) .nil)) (rn := .bool x2.1) (rfl) (Hn := [.box [.ptr 0 0], .box [.i x2.2, .i p1, .i p2], .box [.i p4]]) ((bK (rfl) (bK (rfl) (bK (rfl) rfl)))) ?_
   refine k10 _ _ ?_
   refine .ret ?_
   have e9 := sj h
   subst e9
   refine hQ _ _ _ (dz (u8 (.bool (!x2.1) :: (u32 (u8 (u2 []))))) [.box [.i x2.2, .i p1, .i p2]] (wk [some 0] (.u8 (.c rfl (.u32 (.u8 (.u2 .nil))))) (.b rfl (.c rfl (.c rfl (.c rfl .nil))) .nil) rfl) (bG aC [0] rfl (.cons (rfl) .nil) ?_))
   conv => whnf
   first | rfl | (simp; done) | (simp; rfl) | (simp; constructor <;> rfl)
  refine rg 0 ?_
  refine bB (l := p3.kids) (f := aF) ?_
  refine aG hj2 (fun hc3 hj2 => ?_) (fun hc3 hj2 => ?_)
  ·cases hj2
   exact hR2 _ _ (li (.u4 (.s (.s (.s (.u16 (.u16 (.u4 (.u2 (.s (.u4 (.u .n))))))))))))
  refine aG hj2 (fun hc4 hj2 => ?_) (fun hc4 hj2 => ?_)
  ·cases hj2
   exact hR2 _ _ (li (.u4 (.s (.s (.s (.u16 (.u16 (.u4 (.u2 (.s (.u4 (.u .n))))))))))))
  cases hj2
  exact hR2 _ _ (li (.u4 (.s (.s (.s (.u16 (.u16 (.u4 (.u2 (.s (.u4 (.u .n))))))))))))
 refine .q fun K11 k11 => rg 0 ?_
 refine k11 _ _ ?_
 refine .block ?_
 refine .q fun K12 k12 => rg 0 ?_
 refine k12 _ _ ?_
 refine .aB rfl hj1 (fun hc5 hj1 => ?_) (fun hc5 hj1 => ?_)
 ·refine .skip ?_
  exact hR1 _ (sj hj1).symm _ _ (li (.u4 (.s (.s (.s (.u2 (.s (.u16 (.u16 (.u8 (.u .n)))))))))))
 refine .q fun K13 k13 => rg 0 ?_
 refine k13 _ _ ?_
 refine .aB rfl hj1 (fun hc6 hj1 => ?_) (fun hc6 hj1 => ?_)
 ·refine .q fun K14 k14 => rg 0 ?_
  refine k14 _ _ ?_
  refine .aB rfl hj1 (fun hc7 hj1 => ?_) (fun hc7 hj1 => ?_)
  ·refine .q fun K15 k15 => rg 0 ?_
   refine k15 _ _ ?_
   refine .ret ?_
   have e9 := sj hj1
   subst e9
   dsimp only [LR.el] at h
   have e9 := sj h
   subst e9
   refine hQ _ _ _ (dz (u8 (.bool false :: (u32 (u8 (u2 []))))) [.box [.i x1.2, .i p1, .i p2]] (wk [some 0] (.u8 (.c rfl (.u32 (.u8 (.u2 .nil))))) (.b rfl (.c rfl (.c rfl (.c rfl .nil))) .nil) rfl) (bG aC [0] rfl (.cons (rfl) .nil) ?_))
   conv => whnf
   first | rfl | (simp; done) | (simp; rfl) | (simp; constructor <;> rfl)
  refine .skip ?_
  exact hR1 _ (sj hj1).symm _ _ (li (.u4 (.s (.s (.s (.u2 (.s (.u16 (.u16 (.u8 (.u .n)))))))))))
 refine .q fun K16 k16 => rg 0 ?_
 refine k16 _ _ ?_
 refine .aB rfl hj1 (fun hc8 hj1 => ?_) (fun hc8 hj1 => ?_)
 ·refine .q fun K17 k17 => rg 0 ?_
  obtain ⟨x3, hx3, hj1⟩ := ob hj1
  refine ak (mq _ _ _ hx3) Ez (.cons (.same _) .nil) (fun g => rfl) (fun g => rfl) ?_
  refine k17 _ _ ?_
  refine .aB rfl hj1 (fun hc9 hj1 => ?_) (fun hc9 hj1 => ?_)
  ·refine .q fun K18 k18 => rg 0 ?_
   refine k18 _ _ ?_
   refine .ret ?_
   have e9 := sj hj1
   subst e9
   dsimp only [LR.el] at h
   have e9 := sj h
   subst e9
   refine hQ _ _ _ (dz (u8 (.bool false :: (u32 (u8 (u2 []))))) [.box [.i x1.2, .i p1, .i p2]] (wk [some 0] (.u8 (.c rfl (.u32 (.u8 (.u2 .nil))))) (.b rfl (.c rfl (.c rfl (.c rfl .nil))) .nil) rfl) (bG aC [0] rfl (.cons (rfl) .nil) ?_))
   conv => whnf
   first | rfl | (simp; done) | (simp; rfl) | (simp; constructor <;> rfl)
  refine .skip ?_
  exact hR1 _ (sj hj1).symm _ _ (li (.u4 (.s (.s (.s (.u2 (.s (.u16 (.u16 (.u8 (.u .n)))))))))))
 refine .q fun K19 k19 => rg 0 ?_
 refine k19 _ _ ?_
 refine .aB rfl hj1 (fun hc10 hj1 => ?_) (fun hc10 hj1 => ?_)
 ·refine rg 0 ?_
  exact hR1 _ (sj hj1).symm _ _ (li (.u4 (.s (.s (.s (.u2 (.s (.u16 (.u16 (.u8 (.u .n)))))))))))
 refine .q fun K20 k20 => rg 0 ?_
 refine k20 _ _ ?_
 refine .aB rfl hj1 (fun hc11 hj1 => ?_) (fun hc11 hj1 => ?_)
 ·refine rg 0 ?_
  exact hR1 _ (sj hj1).symm _ _ (li (.u4 (.s (.s (.s (.u2 (.s (.u16 (.u16 (.u8 (.u .n)))))))))))
 refine .q fun K21 k21 => rg 0 ?_
 refine k21 _ _ ?_
 refine .ret ?_
 have e9 := sj hj1
 subst e9
 dsimp only [LR.el] at h
 have e9 := sj h
 subst e9
 refine hQ _ _ _ (dz (u8 (.bool false :: (u32 (u8 (u2 []))))) [.box [.i x1.2, .i p1, .i p2]] (wk [some 0] (.u8 (.c rfl (.u32 (.u8 (.u2 .nil))))) (.b rfl (.c rfl (.c rfl (.c rfl .nil))) .nil) rfl) (bG aC [0] rfl (.cons (rfl) .nil) ?_))
 conv => whnf
 first | rfl | (simp; done) | (simp; rfl) | (simp; constructor <;> rfl)
theorem Ar (n : Nat) (rec_slices_IndexFunc_Type : (List Ty) → Int → Int → Int → Int → Option (Int × Int)) (rec_slices_ContainsFunc_Type : (List Ty) → Int → Int → Int → Int → Option (Bool × Int)) (rec_term_measure_typeFits : Int → Int → Int → Ty → Int → Bool → Option (Bool × Int)) (rec_term_measure_typeFits_1 : Ty → Int → Int → Int → Int → Option (Bool × Int)) (hrec_slices_IndexFunc_Type : kY rec_slices_IndexFunc_Type) (hrec_slices_ContainsFunc_Type : jr rec_slices_ContainsFunc_Type) (hrec_term_measure_typeFits : jh rec_term_measure_typeFits) (hrec_term_measure_typeFits_1 : jQ rec_term_measure_typeFits_1) (p0 : Ty) (p1 : Int) (p2 : Int) (p3 : Int) (p4 : Int) (r : Bool × Int) (h : iT n rec_slices_IndexFunc_Type rec_slices_ContainsFunc_Type rec_term_measure_typeFits rec_term_measure_typeFits_1 p0 p1 p2 p3 p4 = some r) : aA Tryz.prog 244 [aU p0, .ptr 0 0, .ptr 2 0] [.box [.ptr 1 0], .box [.i p1, .i p2, .i p3], .box [.i p4]] (.bool r.1) [.box [.ptr 1 0], .box [.i r.2, .i p2, .i p3], .box [.i p4]] := by
 unfold iT at h
 refine ah true Tryz.func244 rfl (nt Tryz.ntmps244 rfl) fun Q hQ t ht => ?_
 conv at ht => whnf
 subst ht
 refine .q fun K1 k1 => rg 1 ?_
 refine k1 _ _ ?_
 refine .q fun K2 k2 => rg 0 ?_
 refine ⟨(IntKind.wrap .i64 (p4 + 1)), rfl, ?_⟩
 obtain ⟨x1, hx1, h⟩ := ob h
 refine bU [1] [] [.ptr 0 0, aU p0, .i (IntKind.wrap .i64 (p4 + 1)), .bool true] [.ptr 1 0, aU p0, .i (IntKind.wrap .i64 (p4 + 1)), .bool true] (hrec_term_measure_typeFits _ _ _ _ _ _ _ hx1) adH rfl (.cons (rfl) .nil) (by simp; try decide) (.cons (.same _) (.cons (.same _) (.cons (.same _) (.cons (.same _) .nil)))) (rn := .bool x1.1) (rfl) (Hn := [.box [.i x1.2, .i p2, .i p3]]) ((bK (rfl) rfl)) ?_
 refine k2 _ _ ?_
 refine .ret ?_
 have e9 := sj h
 subst e9
 refine hQ _ _ _ (dz (u4 (.bool (!x1.1) :: (u4 (u2 [])))) [.box [.ptr 1 0], .box [.i x1.2, .i p2, .i p3], .box [.i p4]] (wk [some 0, some 1, some 2] (.u4 (.c rfl (.u4 (.u2 .nil)))) (.b rfl (.c rfl .nil) (.b rfl (.c rfl (.c rfl (.c rfl .nil))) (.b rfl (.c rfl .nil) .nil))) rfl) (bG aC [0, 1, 2] rfl (.cons (rfl) (.cons (rfl) (.cons (rfl) .nil))) ?_))
 conv => whnf
 first | rfl | (simp; done) | (simp; rfl) | (simp; constructor <;> rfl)
theorem D5 (n : Nat) : kY (gT n) ∧ jr (dL n) ∧ jh (d9 n) ∧ jQ (dP n) := by
 induction n with
 | zero => exact ⟨(fun p0 p1 p2 p3 p4 r h => by unfold gT at h; cases h), (fun p0 p1 p2 p3 p4 r h => by unfold dL at h; cases h), (fun p0 p1 p2 p3 p4 p5 r h => by unfold d9 at h; cases h), (fun p0 p1 p2 p3 p4 r h => by unfold dP at h; cases h)⟩
 | succ n ih =>
  exact ⟨(fun p0 p1 p2 p3 p4 r h => BJ n _ _ _ _ ih.1 ih.2.1 ih.2.2.1 ih.2.2.2 p0 p1 p2 p3 p4 r (by unfold gT at h; exact h)), (fun p0 p1 p2 p3 p4 r h => zU n _ _ _ _ ih.1 ih.2.1 ih.2.2.1 ih.2.2.2 p0 p1 p2 p3 p4 r (by unfold dL at h; exact h)), (fun p0 p1 p2 p3 p4 p5 r h => BG n _ _ _ _ ih.1 ih.2.1 ih.2.2.1 ih.2.2.2 p0 p1 p2 p3 p4 p5 r (by unfold d9 at h; exact h)), (fun p0 p1 p2 p3 p4 r h => Ar n _ _ _ _ ih.1 ih.2.1 ih.2.2.1 ih.2.2.2 p0 p1 p2 p3 p4 r (by unfold dP at h; exact h))⟩
theorem EG (n : Nat) : jh (d9 n) := (D5 n).2.2.1
end Abs
end Go.Proofs.YtiiaccpcoclklaaGreat
