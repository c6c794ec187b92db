/-
  Contracts of Go functions (printed). Conditions: none.
-/
import Derived.KernelRfl
import Derived.Test.YtiiaccpcoclklaaGreatCT1x41beca
set_option linter.unusedSimpArgs false
set_option linter.unusedVariables false
namespace Go.Proofs.YtiiaccpcoclklaaGreat
namespace Abs
open Go Go.Proofs
set_option maxRecDepth 100000
set_option maxHeartbeats 40000000
abbrev slices_IndexFunc_Type_S (rec_slices_IndexFunc_Type : (List Ty) → Int → Int → Int → Int → Option (Int × Int)) : Prop := ∀ (p0 : List Ty) (p1 : Int) (p2 : Int) (p3 : Int) (p4 : Int) (r : Int × Int), rec_slices_IndexFunc_Type p0 p1 p2 p3 p4 = some r → ak Tryz.prog 245 [aI p0, .func 244 [.ptr 0 0, .ptr 2 0]] [.box [.ptr 1 0], .box [.i p1, .i p2, .i p3], .box [.i p4]] (.i r.1) [.box [.ptr 1 0], .box [.i r.2, .i p2, .i p3], .box [.i p4]]
abbrev slices_ContainsFunc_Type_S (rec_slices_ContainsFunc_Type : (List Ty) → Int → Int → Int → Int → Option (Bool × Int)) : Prop := ∀ (p0 : List Ty) (p1 : Int) (p2 : Int) (p3 : Int) (p4 : Int) (r : Bool × Int), rec_slices_ContainsFunc_Type p0 p1 p2 p3 p4 = some r → ak Tryz.prog 178 [aI p0, .func 244 [.ptr 0 0, .ptr 2 0]] [.box [.ptr 1 0], .box [.i p1, .i p2, .i p3], .box [.i p4]] (.bool r.1) [.box [.ptr 1 0], .box [.i r.2, .i p2, .i p3], .box [.i p4]]
abbrev term_measure_typeFits_S (rec_term_measure_typeFits : Int → Int → Int → Ty → Int → Bool → Option (Bool × Int)) : Prop := ∀ (p0 : Int) (p1 : Int) (p2 : Int) (p3 : Ty) (p4 : Int) (p5 : Bool) (r : Bool × Int), rec_term_measure_typeFits p0 p1 p2 p3 p4 p5 = some r → ak Tryz.prog 176 [.ptr 0 0, aV p3, .i p4, .bool p5] [.box [.i p0, .i p1, .i p2]] (.bool r.1) [.box [.i r.2, .i p1, .i p2]]
abbrev term_measure_typeFits_1_S (rec_term_measure_typeFits_1 : Ty → Int → Int → Int → Int → Option (Bool × Int)) : Prop := ∀ (p0 : Ty) (p1 : Int) (p2 : Int) (p3 : Int) (p4 : Int) (r : Bool × Int), rec_term_measure_typeFits_1 p0 p1 p2 p3 p4 = some r → ak Tryz.prog 244 [aV p0, .ptr 0 0, .ptr 2 0] [.box [.ptr 1 0], .box [.i p1, .i p2, .i p3], .box [.i p4]] (.bool r.1) [.box [.ptr 1 0], .box [.i r.2, .i p2, .i p3], .box [.i p4]]
theorem Ef (n : Nat) (rec_slices_IndexFunc_Type : (List Ty) → Int → Int → Int → Int → Option (Int × Int)) (rec_slices_ContainsFunc_Type : (List Ty) → Int → Int → Int → Int → Option (Bool × Int)) (rec_term_measure_typeFits : Int → Int → Int → Ty → Int → Bool → Option (Bool × Int)) (rec_term_measure_typeFits_1 : Ty → Int → Int → Int → Int → Option (Bool × Int)) (hrec_slices_IndexFunc_Type : slices_IndexFunc_Type_S rec_slices_IndexFunc_Type) (hrec_slices_ContainsFunc_Type : slices_ContainsFunc_Type_S rec_slices_ContainsFunc_Type) (hrec_term_measure_typeFits : term_measure_typeFits_S rec_term_measure_typeFits) (hrec_term_measure_typeFits_1 : term_measure_typeFits_1_S rec_term_measure_typeFits_1) (p0 : List Ty) (p1 : Int) (p2 : Int) (p3 : Int) (p4 : Int) (r : Int × Int) (h : gQ n rec_slices_IndexFunc_Type rec_slices_ContainsFunc_Type rec_term_measure_typeFits rec_term_measure_typeFits_1 p0 p1 p2 p3 p4 = some r) : ak Tryz.prog 245 [aI p0, .func 244 [.ptr 0 0, .ptr 2 0]] [.box [.ptr 1 0], .box [.i p1, .i p2, .i p3], .box [.i p4]] (.i r.1) [.box [.ptr 1 0], .box [.i r.2, .i p2, .i p3], .box [.i p4]] := by
 unfold gQ at h
 refine ah true Tryz.func245 rfl (nt Tryz.ntmps245 rfl) fun Q hQ t ht => ?_
 conv at ht => whnf
 subst ht
 refine .q fun K1 k1 => rg 0 ?_
 refine k1 _ _ ?_
 refine .q fun K2 k2 => .q fun K3 k3 => rg 0 ?_
 refine aW (l := p0) (f := aK) ?_
 refine k3 _ _ ?_
 refine .block ?_
 obtain ⟨o1, ho1, h⟩ := ob h
 have hR1 : ∀ s2 : Int, o1 = .nx s2 → ∀ t9 h9, Le 3 t9 h9 (u16 (u2 (.unk :: []))) [.box [.ptr 1 0], .box [.i s2, .i p2, .i p3], .box [.i p4]] → K2 t9 h9 := by
  intro s2 ho
  subst ho
  dsimp only [LR.el] at h
  intro t9 h9 hw
  refine k2 _ _ (AW.le hw ?_)
  refine .q fun K4 k4 => rg 0 ?_
  refine k4 _ _ ?_
  refine .ret ?_
  have e9 := sj h
  subst e9
  refine hQ _ _ _ (dI (u4 (.i (-1) :: (u8 (u4 (u2 []))))) [.box [.ptr 1 0], .box [.i s2, .i p2, .i p3], .box [.i p4]] (wk [some 0, some 1, some 2] (.u4 (.c rfl (.u8 (.u4 (.u2 .nil))))) (.b rfl (.c rfl .nil) (.b rfl (.c rfl (.c rfl (.c rfl .nil))) (.b rfl (.c rfl .nil) .nil))) rfl) (bP aD [0, 1, 2] rfl (.cons (rfl) (.cons (rfl) (.cons (rfl) .nil))) ?_))
  conv => whnf
  first | rfl | (simp; done) | (simp; rfl) | (simp; constructor <;> rfl)
 refine .loopS (lJ n rec_slices_IndexFunc_Type rec_slices_ContainsFunc_Type rec_term_measure_typeFits rec_term_measure_typeFits_1 p0 p2 p3 p4) (fun (s1 : Int × Int) => (aI p0 :: (.func 244 [.ptr 0 0, .ptr 2 0] :: (u4 (.unk :: (.i (p0.length : Int) :: (.i s1.1 :: (u8 (u2 []))))))))) (fun (s1 : Int × Int) => [.box [.ptr 1 0], .box [.i s1.2, .i p2, .i p3], .box [.i p4]]) ho1 (fun _ => rfl) (li (.s (.s (.u4 (.u (.s (.s (.u8 (.u2 .n))))))))) ?_
 intro n1 s1 hs1 KL1 hKL1
 unfold lJ at hs1
 refine .q fun K5 k5 => rg 0 ?_
 refine k5 _ _ ?_
 refine .q fun K6 k6 => ?_
 refine .aC rfl hs1 (fun hc1 hs1 => ?_) (fun hc1 hs1 => ?_)
 ·refine .skip ?_
  refine k6 _ _ ?_
  refine .q fun K7 k7 => ?_
  refine .block ?_
  refine .q fun K8 k8 => rg 0 ?_
  refine k8 _ _ ?_
  refine .q fun K9 k9 => rg 0 ?_
  obtain ⟨x1, hx1, hs1⟩ := ob hs1
  refine aJ (l := p0) (f := aK) (cs := [.i ((x1).kind), .str ((x1).name), aI ((x1).kids)]) hx1 (aR x1) rfl ?_
  obtain ⟨x2, hx2, hs1⟩ := ob hs1
  refine bM [0, 1, 2] [] [aV x1, .ptr 0 0, .ptr 2 0] [aV x1, .ptr 0 0, .ptr 2 0] (hrec_term_measure_typeFits_1 _ _ _ _ _ _ hx2) apt rfl (.cons (rfl) (.cons (rfl) (.cons (rfl) .nil))) (by simp; try decide) (.cons (.same _) (.cons (.same _) (.cons (.same _) .nil))) (rn := .bool x2.1) (rfl) (Hn := [.box [.ptr 1 0], .box [.i x2.2, .i p2, .i p3], .box [.i p4]]) ((bI (rfl) (bI (rfl) (bI (rfl) rfl)))) ?_
  refine k9 _ _ ?_
  refine .aC rfl hs1 (fun hc2 hs1 => ?_) (fun hc2 hs1 => ?_)
  ·refine .q fun K10 k10 => rg 0 ?_
   refine k10 _ _ ?_
   refine .ret ?_
   have e9 := sj hs1
   subst e9
   dsimp only [LR.el] at h
   have e9 := sj h
   subst e9
   refine hQ _ _ _ (dI (u4 (.i s1.1 :: (u8 (u4 (u2 []))))) [.box [.ptr 1 0], .box [.i x2.2, .i p2, .i p3], .box [.i p4]] (wk [some 0, some 1, some 2] (.u4 (.c rfl (.u8 (.u4 (.u2 .nil))))) (.b rfl (.c rfl .nil) (.b rfl (.c rfl (.c rfl (.c rfl .nil))) (.b rfl (.c rfl .nil) .nil))) rfl) (bP aD [0, 1, 2] rfl (.cons (rfl) (.cons (rfl) (.cons (rfl) .nil))) ?_))
   conv => whnf
   first | rfl | (simp; done) | (simp; rfl) | (simp; constructor <;> rfl)
  refine .skip ?_
  refine k7 _ _ ?_
  refine .know 5 0 fun hv1 => ?_
  refine .know 0 0 fun hv2 => ?_
  refine rg 0 ?_
  refine ⟨(s1.1 + 1), by have := dn hv1; have := eP hv2; have h8 := of_decide_eq_true hc1; exact bG (by omega) (by omega), ?_⟩
  exact hKL1 _ _ _ hs1 (li (.s (.s (.u4 (.u (.s (.s (.u8 (.u2 .n)))))))))
 refine .exit ?_
 exact hR1 _ (sj hs1).symm _ _ (li (.u16 (.u2 (.u .n))))
theorem Cc (n : Nat) (rec_slices_IndexFunc_Type : (List Ty) → Int → Int → Int → Int → Option (Int × Int)) (rec_slices_ContainsFunc_Type : (List Ty) → Int → Int → Int → Int → Option (Bool × Int)) (rec_term_measure_typeFits : Int → Int → Int → Ty → Int → Bool → Option (Bool × Int)) (rec_term_measure_typeFits_1 : Ty → Int → Int → Int → Int → Option (Bool × Int)) (hrec_slices_IndexFunc_Type : slices_IndexFunc_Type_S rec_slices_IndexFunc_Type) (hrec_slices_ContainsFunc_Type : slices_ContainsFunc_Type_S rec_slices_ContainsFunc_Type) (hrec_term_measure_typeFits : term_measure_typeFits_S rec_term_measure_typeFits) (hrec_term_measure_typeFits_1 : term_measure_typeFits_1_S rec_term_measure_typeFits_1) (p0 : List Ty) (p1 : Int) (p2 : Int) (p3 : Int) (p4 : Int) (r : Bool × Int) (h : jg n rec_slices_IndexFunc_Type rec_slices_ContainsFunc_Type rec_term_measure_typeFits rec_term_measure_typeFits_1 p0 p1 p2 p3 p4 = some r) : ak Tryz.prog 178 [aI p0, .func 244 [.ptr 0 0, .ptr 2 0]] [.box [.ptr 1 0], .box [.i p1, .i p2, .i p3], .box [.i p4]] (.bool r.1) [.box [.ptr 1 0], .box [.i r.2, .i p2, .i p3], .box [.i p4]] := by
 unfold jg at h
 refine ah true Tryz.func178 rfl (nt Tryz.ntmps178 rfl) fun Q hQ t ht => ?_
 conv at ht => whnf
 subst ht
 refine .q fun K1 k1 => rg 0 ?_
 refine k1 _ _ ?_
 refine .q fun K2 k2 => rg 0 ?_
 obtain ⟨x1, hx1, h⟩ := ob h
 refine bM [0, 1, 2] [] [aI p0, .func 244 [.ptr 0 0, .ptr 2 0]] [aI p0, .func 244 [.ptr 0 0, .ptr 2 0]] (hrec_slices_IndexFunc_Type _ _ _ _ _ _ hx1) Rm rfl (.cons (rfl) (.cons (rfl) (.cons (rfl) .nil))) (by simp; try decide) (.cons (.same _) (.cons (.same _) .nil)) (rn := .i x1.1) (rfl) (Hn := [.box [.ptr 1 0], .box [.i x1.2, .i p2, .i p3], .box [.i p4]]) ((bI (rfl) (bI (rfl) (bI (rfl) rfl)))) ?_
 refine k2 _ _ ?_
 refine .ret ?_
 have e9 := sj h
 subst e9
 refine hQ _ _ _ (dI (u4 (.bool (decide (0 ≤ x1.1)) :: (u4 []))) [.box [.ptr 1 0], .box [.i x1.2, .i p2, .i p3], .box [.i p4]] (wk [some 0, some 1, some 2] (.u4 (.c rfl (.u4 .nil))) (.b rfl (.c rfl .nil) (.b rfl (.c rfl (.c rfl (.c rfl .nil))) (.b rfl (.c rfl .nil) .nil))) rfl) (bP aD [0, 1, 2] rfl (.cons (rfl) (.cons (rfl) (.cons (rfl) .nil))) ?_))
 conv => whnf
 first | rfl | (simp; done) | (simp; rfl) | (simp; constructor <;> rfl)
theorem Ec (n : Nat) (rec_slices_IndexFunc_Type : (List Ty) → Int → Int → Int → Int → Option (Int × Int)) (rec_slices_ContainsFunc_Type : (List Ty) → Int → Int → Int → Int → Option (Bool × Int)) (rec_term_measure_typeFits : Int → Int → Int → Ty → Int → Bool → Option (Bool × Int)) (rec_term_measure_typeFits_1 : Ty → Int → Int → Int → Int → Option (Bool × Int)) (hrec_slices_IndexFunc_Type : slices_IndexFunc_Type_S rec_slices_IndexFunc_Type) (hrec_slices_ContainsFunc_Type : slices_ContainsFunc_Type_S rec_slices_ContainsFunc_Type) (hrec_term_measure_typeFits : term_measure_typeFits_S rec_term_measure_typeFits) (hrec_term_measure_typeFits_1 : term_measure_typeFits_1_S rec_term_measure_typeFits_1) (p0 : Int) (p1 : Int) (p2 : Int) (p3 : Ty) (p4 : Int) (p5 : Bool) (r : Bool × Int) (h : kg n rec_slices_IndexFunc_Type rec_slices_ContainsFunc_Type rec_term_measure_typeFits rec_term_measure_typeFits_1 p0 p1 p2 p3 p4 p5 = some r) : ak Tryz.prog 176 [.ptr 0 0, aV p3, .i p4, .bool p5] [.box [.i p0, .i p1, .i p2]] (.bool r.1) [.box [.i r.2, .i p1, .i p2]] := by
 unfold kg at h
 refine ah true Tryz.func176 rfl (nt Tryz.ntmps176 rfl) fun Q hQ t ht => ?_
 conv at ht => whnf
 subst ht
 refine .q fun K1 k1 => rg 3 ?_
 refine k1 _ _ ?_
 refine .q fun K2 k2 => .q fun K3 k3 => rg 0 ?_
 obtain ⟨x1, hx1, h⟩ := ob h
 refine bM [0] [] [.ptr 0 0, .i p4] [.ptr 0 0, .i p4] (Cw _ _ _ _ _ _ hx1) aho rfl (.cons (rfl) .nil) (rfl) (.cons (.same _) (.cons (.same _) .nil)) (rn := .bool x1.1) (rfl) (Hn := [.box [.i x1.2, .i p1, .i p2]]) ((bI (rfl) rfl)) ?_
 refine k3 _ _ ?_
 refine .aC rfl h (fun hc1 h => ?_) (fun hc1 h => ?_)
 ·refine .q fun K4 k4 => rg 0 ?_
  refine k4 _ _ ?_
  refine .ret ?_
  have e9 := sj h
  subst e9
  refine hQ _ _ _ (dI (u8 (.bool false :: (u32 (u8 (u2 []))))) [.box [.i x1.2, .i p1, .i p2]] (wk [some 0] (.u8 (.c rfl (.u32 (.u8 (.u2 .nil))))) (.b rfl (.c rfl (.c rfl (.c rfl .nil))) .nil) rfl) (bP aD [0] rfl (.cons (rfl) .nil) ?_))
  conv => whnf
  first | rfl | (simp; done) | (simp; rfl) | (simp; constructor <;> rfl)
 refine .skip ?_
 refine k2 _ _ ?_
 refine .q fun K5 k5 => rg 0 ?_
 refine k5 _ _ ?_
 refine .q fun K6 k6 => ?_
 obtain ⟨o1, hj1, h⟩ := ob h
 have hR1 : ∀ s1 : Int, o1 = .nx s1 → ∀ t9 h9, Le 1 t9 h9 (u4 (.ptr 1 0 :: (.ptr 2 0 :: (.ptr 3 0 :: (u2 (.i s1 :: (u32 (u8 (.unk :: []))))))))) [.box [.i x1.2, .i p1, .i p2], .box [.ptr 0 0], .box [.i p3.kind, .str p3.name, aI p3.kids], .box [.i p4]] → K6 t9 h9 := by
  intro s1 ho
  subst ho
  dsimp only [LR.el] at h
  intro t9 h9 hw
  refine k6 _ _ (AW.le hw ?_)
  clear hw
  refine .q fun K7 k7 => .q fun K8 k8 => ?_
  obtain ⟨s2, hj2, h⟩ := ob h
  have hR2 : ∀ t9 h9, Le 1 t9 h9 (u4 (.ptr 1 0 :: (.ptr 2 0 :: (.ptr 3 0 :: (u32 (u4 (u2 (.bool s2 :: (u4 (.unk :: [])))))))))) [.box [.i x1.2, .i p1, .i p2], .box [.ptr 0 0], .box [.i p3.kind, .str p3.name, aI p3.kids], .box [.i p4]] → K8 t9 h9 := by
   intro t9 h9 hw
   refine k8 _ _ (AW.le hw ?_)
   clear hw
   refine .aC rfl h (fun hc2 h => ?_) (fun hc2 h => ?_)
   ·refine .q fun K9 k9 => rg 0 ?_
    refine k9 _ _ ?_
    refine .ret ?_
    have e9 := sj h
    subst e9
    refine hQ _ _ _ (dI (u8 (.bool false :: (u32 (u8 (u2 []))))) [.box [.i x1.2, .i p1, .i p2]] (wk [some 0] (.u8 (.c rfl (.u32 (.u8 (.u2 .nil))))) (.b rfl (.c rfl (.c rfl (.c rfl .nil))) .nil) rfl) (bP aD [0] rfl (.cons (rfl) .nil) ?_))
    conv => whnf
    first | rfl | (simp; done) | (simp; rfl) | (simp; constructor <;> rfl)
   refine .skip ?_
   refine k7 _ _ ?_
   refine .q fun K10 k10 => rg 0 ?_
   obtain ⟨x2, hx2, h⟩ := ob h
   refine bM [1, 0, 3] [] [aI p3.kids, .func 244 [.ptr 0 0, .ptr 2 0]] [aI p3.kids, .func 244 [.ptr 1 0, .ptr 3 0]] (hrec_slices_ContainsFunc_Type _ _ _ _ _ _ hx2) Rv rfl (.cons (rfl) (.cons (rfl) (.cons (rfl) .nil))) (by simp; try decide) (.cons (.same _) (.cons (.same _) .nil)) (rn := .bool x2.1) (rfl) (Hn := [.box [.ptr 0 0], .box [.i x2.2, .i p1, .i p2], .box [.i p4]]) ((bI (rfl) (bI (rfl) (bI (rfl) rfl)))) ?_
   refine k10 _ _ ?_
   refine .ret ?_
   have e9 := sj h
   subst e9
   refine hQ _ _ _ (dI (u8 (.bool (!x2.1) :: (u32 (u8 (u2 []))))) [.box [.i x2.2, .i p1, .i p2]] (wk [some 0] (.u8 (.c rfl (.u32 (.u8 (.u2 .nil))))) (.b rfl (.c rfl (.c rfl (.c rfl .nil))) .nil) rfl) (bP aD [0] rfl (.cons (rfl) .nil) ?_))
   conv => whnf
   first | rfl | (simp; done) | (simp; rfl) | (simp; constructor <;> rfl)
  refine rg 0 ?_
  refine aW (l := p3.kids) (f := aK) ?_
  refine aH hj2 (fun hc3 hj2 => ?_) (fun hc3 hj2 => ?_)
  ·cases hj2
   exact hR2 _ _ (li (.u4 (.s (.s (.s (.u16 (.u16 (.u4 (.u2 (.s (.u4 (.u .n))))))))))))
  refine aH hj2 (fun hc4 hj2 => ?_) (fun hc4 hj2 => ?_)
  ·cases hj2
   exact hR2 _ _ (li (.u4 (.s (.s (.s (.u16 (.u16 (.u4 (.u2 (.s (.u4 (.u .n))))))))))))
  cases hj2
  exact hR2 _ _ (li (.u4 (.s (.s (.s (.u16 (.u16 (.u4 (.u2 (.s (.u4 (.u .n))))))))))))
 refine .q fun K11 k11 => rg 0 ?_
 refine k11 _ _ ?_
 refine .block ?_
 refine .q fun K12 k12 => rg 0 ?_
 refine k12 _ _ ?_
 refine .aC rfl hj1 (fun hc5 hj1 => ?_) (fun hc5 hj1 => ?_)
 ·refine .skip ?_
  exact hR1 _ (sj hj1).symm _ _ (li (.u4 (.s (.s (.s (.u2 (.s (.u16 (.u16 (.u8 (.u .n)))))))))))
 refine .q fun K13 k13 => rg 0 ?_
 refine k13 _ _ ?_
 refine .aC rfl hj1 (fun hc6 hj1 => ?_) (fun hc6 hj1 => ?_)
 ·refine .q fun K14 k14 => rg 0 ?_
  refine k14 _ _ ?_
  refine .aC rfl hj1 (fun hc7 hj1 => ?_) (fun hc7 hj1 => ?_)
  ·refine .q fun K15 k15 => rg 0 ?_
   refine k15 _ _ ?_
   refine .ret ?_
   have e9 := sj hj1
   subst e9
   dsimp only [LR.el] at h
   have e9 := sj h
   subst e9
   refine hQ _ _ _ (dI (u8 (.bool false :: (u32 (u8 (u2 []))))) [.box [.i x1.2, .i p1, .i p2]] (wk [some 0] (.u8 (.c rfl (.u32 (.u8 (.u2 .nil))))) (.b rfl (.c rfl (.c rfl (.c rfl .nil))) .nil) rfl) (bP aD [0] rfl (.cons (rfl) .nil) ?_))
   conv => whnf
   first | rfl | (simp; done) | (simp; rfl) | (simp; constructor <;> rfl)
  refine .skip ?_
  exact hR1 _ (sj hj1).symm _ _ (li (.u4 (.s (.s (.s (.u2 (.s (.u16 (.u16 (.u8 (.u .n)))))))))))
 refine .q fun K16 k16 => rg 0 ?_
 refine k16 _ _ ?_
 refine .aC rfl hj1 (fun hc8 hj1 => ?_) (fun hc8 hj1 => ?_)
 ·refine .q fun K17 k17 => rg 0 ?_
  obtain ⟨x3, hx3, hj1⟩ := ob hj1
  refine au (nL _ _ _ hx3) GH (.cons (.same _) .nil) (fun g => rfl) (fun g => rfl) ?_
  refine k17 _ _ ?_
  refine .aC rfl hj1 (fun hc9 hj1 => ?_) (fun hc9 hj1 => ?_)
  ·refine .q fun K18 k18 => rg 0 ?_
   refine k18 _ _ ?_
   refine .ret ?_
   have e9 := sj hj1
   subst e9
   dsimp only [LR.el] at h
   have e9 := sj h
   subst e9
   refine hQ _ _ _ (dI (u8 (.bool false :: (u32 (u8 (u2 []))))) [.box [.i x1.2, .i p1, .i p2]] (wk [some 0] (.u8 (.c rfl (.u32 (.u8 (.u2 .nil))))) (.b rfl (.c rfl (.c rfl (.c rfl .nil))) .nil) rfl) (bP aD [0] rfl (.cons (rfl) .nil) ?_))
   conv => whnf
   first | rfl | (simp; done) | (simp; rfl) | (simp; constructor <;> rfl)
  refine .skip ?_
  exact hR1 _ (sj hj1).symm _ _ (li (.u4 (.s (.s (.s (.u2 (.s (.u16 (.u16 (.u8 (.u .n)))))))))))
 refine .q fun K19 k19 => rg 0 ?_
 refine k19 _ _ ?_
 refine .aC rfl hj1 (fun hc10 hj1 => ?_) (fun hc10 hj1 => ?_)
 ·refine rg 0 ?_
  exact hR1 _ (sj hj1).symm _ _ (li (.u4 (.s (.s (.s (.u2 (.s (.u16 (.u16 (.u8 (.u .n)))))))))))
 refine .q fun K20 k20 => rg 0 ?_
 refine k20 _ _ ?_
 refine .aC rfl hj1 (fun hc11 hj1 => ?_) (fun hc11 hj1 => ?_)
 ·refine rg 0 ?_
  exact hR1 _ (sj hj1).symm _ _ (li (.u4 (.s (.s (.s (.u2 (.s (.u16 (.u16 (.u8 (.u .n)))))))))))
 refine .q fun K21 k21 => rg 0 ?_
 refine k21 _ _ ?_
 refine .ret ?_
 have e9 := sj hj1
 subst e9
 dsimp only [LR.el] at h
 have e9 := sj h
 subst e9
 refine hQ _ _ _ (dI (u8 (.bool false :: (u32 (u8 (u2 []))))) [.box [.i x1.2, .i p1, .i p2]] (wk [some 0] (.u8 (.c rfl (.u32 (.u8 (.u2 .nil))))) (.b rfl (.c rfl (.c rfl (.c rfl .nil))) .nil) rfl) (bP aD [0] rfl (.cons (rfl) .nil) ?_))
 conv => whnf
 first | rfl | (simp; done) | (simp; rfl) | (simp; constructor <;> rfl)
theorem Dg (n : Nat) (rec_slices_IndexFunc_Type : (List Ty) → Int → Int → Int → Int → Option (Int × Int)) (rec_slices_ContainsFunc_Type : (List Ty) → Int → Int → Int → Int → Option (Bool × Int)) (rec_term_measure_typeFits : Int → Int → Int → Ty → Int → Bool → Option (Bool × Int)) (rec_term_measure_typeFits_1 : Ty → Int → Int → Int → Int → Option (Bool × Int)) (hrec_slices_IndexFunc_Type : slices_IndexFunc_Type_S rec_slices_IndexFunc_Type) (hrec_slices_ContainsFunc_Type : slices_ContainsFunc_Type_S rec_slices_ContainsFunc_Type) (hrec_term_measure_typeFits : term_measure_typeFits_S rec_term_measure_typeFits) (hrec_term_measure_typeFits_1 : term_measure_typeFits_1_S rec_term_measure_typeFits_1) (p0 : Ty) (p1 : Int) (p2 : Int) (p3 : Int) (p4 : Int) (r : Bool × Int) (h : jr n rec_slices_IndexFunc_Type rec_slices_ContainsFunc_Type rec_term_measure_typeFits rec_term_measure_typeFits_1 p0 p1 p2 p3 p4 = some r) : ak Tryz.prog 244 [aV p0, .ptr 0 0, .ptr 2 0] [.box [.ptr 1 0], .box [.i p1, .i p2, .i p3], .box [.i p4]] (.bool r.1) [.box [.ptr 1 0], .box [.i r.2, .i p2, .i p3], .box [.i p4]] := by
 unfold jr at h
 refine ah true Tryz.func244 rfl (nt Tryz.ntmps244 rfl) fun Q hQ t ht => ?_
 conv at ht => whnf
 subst ht
 refine .q fun K1 k1 => rg 1 ?_
 refine k1 _ _ ?_
 refine .q fun K2 k2 => rg 0 ?_
 refine ⟨(IntKind.wrap .i64 (p4 + 1)), rfl, ?_⟩
 obtain ⟨x1, hx1, h⟩ := ob h
 refine bM [1] [] [.ptr 0 0, aV p0, .i (IntKind.wrap .i64 (p4 + 1)), .bool true] [.ptr 1 0, aV p0, .i (IntKind.wrap .i64 (p4 + 1)), .bool true] (hrec_term_measure_typeFits _ _ _ _ _ _ _ hx1) ahm rfl (.cons (rfl) .nil) (by simp; try decide) (.cons (.same _) (.cons (.same _) (.cons (.same _) (.cons (.same _) .nil)))) (rn := .bool x1.1) (rfl) (Hn := [.box [.i x1.2, .i p2, .i p3]]) ((bI (rfl) rfl)) ?_
 refine k2 _ _ ?_
 refine .ret ?_
 have e9 := sj h
 subst e9
 refine hQ _ _ _ (dI (u4 (.bool (!x1.1) :: (u4 (u2 [])))) [.box [.ptr 1 0], .box [.i x1.2, .i p2, .i p3], .box [.i p4]] (wk [some 0, some 1, some 2] (.u4 (.c rfl (.u4 (.u2 .nil)))) (.b rfl (.c rfl .nil) (.b rfl (.c rfl (.c rfl (.c rfl .nil))) (.b rfl (.c rfl .nil) .nil))) rfl) (bP aD [0, 1, 2] rfl (.cons (rfl) (.cons (rfl) (.cons (rfl) .nil))) ?_))
 conv => whnf
 first | rfl | (simp; done) | (simp; rfl) | (simp; constructor <;> rfl)
theorem nV (n : Nat) : slices_IndexFunc_Type_S (gN n) ∧ slices_ContainsFunc_Type_S (dU n) ∧ term_measure_typeFits_S (fF n) ∧ term_measure_typeFits_1_S (dX n) := by
 induction n with
 | zero => exact ⟨(fun p0 p1 p2 p3 p4 r h => by unfold gN at h; cases h), (fun p0 p1 p2 p3 p4 r h => by unfold dU at h; cases h), (fun p0 p1 p2 p3 p4 p5 r h => by unfold fF at h; cases h), (fun p0 p1 p2 p3 p4 r h => by unfold dX at h; cases h)⟩
 | succ n ih =>
  exact ⟨(fun p0 p1 p2 p3 p4 r h => Ef n _ _ _ _ ih.1 ih.2.1 ih.2.2.1 ih.2.2.2 p0 p1 p2 p3 p4 r (by unfold gN at h; exact h)), (fun p0 p1 p2 p3 p4 r h => Cc n _ _ _ _ ih.1 ih.2.1 ih.2.2.1 ih.2.2.2 p0 p1 p2 p3 p4 r (by unfold dU at h; exact h)), (fun p0 p1 p2 p3 p4 p5 r h => Ec n _ _ _ _ ih.1 ih.2.1 ih.2.2.1 ih.2.2.2 p0 p1 p2 p3 p4 p5 r (by unfold fF at h; exact h)), (fun p0 p1 p2 p3 p4 r h => Dg n _ _ _ _ ih.1 ih.2.1 ih.2.2.1 ih.2.2.2 p0 p1 p2 p3 p4 r (by unfold dX at h; exact h))⟩
theorem Hf (n : Nat) : term_measure_typeFits_S (fF n) := (nV n).2.2.1
end Abs
end Go.Proofs.YtiiaccpcoclklaaGreat
