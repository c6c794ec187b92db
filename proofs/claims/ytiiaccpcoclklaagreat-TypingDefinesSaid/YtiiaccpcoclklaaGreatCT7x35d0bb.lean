/-
  Contracts of Go functions (printed). Conditions: none.
-/
import Derived.KernelRfl
import Derived.Test.YtiiaccpcoclklaaGreatCT5x42af38
set_option linter.unusedSimpArgs false
set_option linter.unusedVariables false
namespace Go.Proofs.YtiiaccpcoclklaaGreat
namespace Abs
open Go Go.Proofs
set_option maxRecDepth 100000
set_option maxHeartbeats 40000000
abbrev slices_IndexFunc_Term_S (rec_slices_IndexFunc_Term : (List Tm) → Int → Int → Int → Int → Option (Int × Int)) : Prop := ∀ (p0 : List Tm) (p1 : Int) (p2 : Int) (p3 : Int) (p4 : Int) (r : Int × Int), rec_slices_IndexFunc_Term p0 p1 p2 p3 p4 = some r → ak Tryz.prog 258 [bn p0, .func 197 [.ptr 0 0, .ptr 2 0]] [.box [.ptr 1 0], .box [.i p1, .i p2, .i p3], .box [.i p4]] (.i r.1) [.box [.ptr 1 0], .box [.i r.2, .i p2, .i p3], .box [.i p4]]
abbrev slices_ContainsFunc_Term_S (rec_slices_ContainsFunc_Term : (List Tm) → Int → Int → Int → Int → Option (Bool × Int)) : Prop := ∀ (p0 : List Tm) (p1 : Int) (p2 : Int) (p3 : Int) (p4 : Int) (r : Bool × Int), rec_slices_ContainsFunc_Term p0 p1 p2 p3 p4 = some r → ak Tryz.prog 196 [bn p0, .func 197 [.ptr 0 0, .ptr 2 0]] [.box [.ptr 1 0], .box [.i p1, .i p2, .i p3], .box [.i p4]] (.bool r.1) [.box [.ptr 1 0], .box [.i r.2, .i p2, .i p3], .box [.i p4]]
abbrev term_measure_fits_S (rec_term_measure_fits : Int → Int → Int → Tm → Int → Option (Bool × Int)) : Prop := ∀ (p0 : Int) (p1 : Int) (p2 : Int) (p3 : Tm) (p4 : Int) (r : Bool × Int), rec_term_measure_fits p0 p1 p2 p3 p4 = some r → ak Tryz.prog 130 [.ptr 0 0, bg p3, .i p4] [.box [.i p0, .i p1, .i p2]] (.bool r.1) [.box [.i r.2, .i p1, .i p2]]
abbrev term_measure_fits_1_S (rec_term_measure_fits_1 : Tm → Int → Int → Int → Int → Option (Bool × Int)) : Prop := ∀ (p0 : Tm) (p1 : Int) (p2 : Int) (p3 : Int) (p4 : Int) (r : Bool × Int), rec_term_measure_fits_1 p0 p1 p2 p3 p4 = some r → ak Tryz.prog 197 [bg p0, .ptr 0 0, .ptr 2 0] [.box [.ptr 1 0], .box [.i p1, .i p2, .i p3], .box [.i p4]] (.bool r.1) [.box [.ptr 1 0], .box [.i r.2, .i p2, .i p3], .box [.i p4]]
theorem Ed (n : Nat) (rec_slices_IndexFunc_Term : (List Tm) → Int → Int → Int → Int → Option (Int × Int)) (rec_slices_ContainsFunc_Term : (List Tm) → Int → Int → Int → Int → Option (Bool × Int)) (rec_term_measure_fits : Int → Int → Int → Tm → Int → Option (Bool × Int)) (rec_term_measure_fits_1 : Tm → Int → Int → Int → Int → Option (Bool × Int)) (hrec_slices_IndexFunc_Term : slices_IndexFunc_Term_S rec_slices_IndexFunc_Term) (hrec_slices_ContainsFunc_Term : slices_ContainsFunc_Term_S rec_slices_ContainsFunc_Term) (hrec_term_measure_fits : term_measure_fits_S rec_term_measure_fits) (hrec_term_measure_fits_1 : term_measure_fits_1_S rec_term_measure_fits_1) (p0 : List Tm) (p1 : Int) (p2 : Int) (p3 : Int) (p4 : Int) (r : Int × Int) (h : gU n rec_slices_IndexFunc_Term rec_slices_ContainsFunc_Term rec_term_measure_fits rec_term_measure_fits_1 p0 p1 p2 p3 p4 = some r) : ak Tryz.prog 258 [bn p0, .func 197 [.ptr 0 0, .ptr 2 0]] [.box [.ptr 1 0], .box [.i p1, .i p2, .i p3], .box [.i p4]] (.i r.1) [.box [.ptr 1 0], .box [.i r.2, .i p2, .i p3], .box [.i p4]] := by
 unfold gU at h
 refine ah true Tryz.func258 rfl (nt Tryz.ntmps258 rfl) fun Q hQ t ht => ?_
 conv at ht => whnf
 subst ht
 refine .q fun K1 k1 => rg 0 ?_
 refine k1 _ _ ?_
 refine .q fun K2 k2 => .q fun K3 k3 => rg 0 ?_
 refine aW (l := p0) (f := aS) ?_
 refine k3 _ _ ?_
 refine .block ?_
 obtain ⟨o1, ho1, h⟩ := ob h
 have hR1 : ∀ s2 : Int, o1 = .nx s2 → ∀ t9 h9, Le 3 t9 h9 (u16 (u2 (.unk :: []))) [.box [.ptr 1 0], .box [.i s2, .i p2, .i p3], .box [.i p4]] → K2 t9 h9 := by
  intro s2 ho
  subst ho
  dsimp only [LR.el] at h
  intro t9 h9 hw
  refine k2 _ _ (AW.le hw ?_)
  refine .q fun K4 k4 => rg 0 ?_
  refine k4 _ _ ?_
  refine .ret ?_
  have e9 := sj h
  subst e9
  refine hQ _ _ _ (dI (u4 (.i (-1) :: (u8 (u4 (u2 []))))) [.box [.ptr 1 0], .box [.i s2, .i p2, .i p3], .box [.i p4]] (wk [some 0, some 1, some 2] (.u4 (.c rfl (.u8 (.u4 (.u2 .nil))))) (.b rfl (.c rfl .nil) (.b rfl (.c rfl (.c rfl (.c rfl .nil))) (.b rfl (.c rfl .nil) .nil))) rfl) (bP aD [0, 1, 2] rfl (.cons (rfl) (.cons (rfl) (.cons (rfl) .nil))) ?_))
  conv => whnf
  first | rfl | (simp; done) | (simp; rfl) | (simp; constructor <;> rfl)
 refine .loopS (lH n rec_slices_IndexFunc_Term rec_slices_ContainsFunc_Term rec_term_measure_fits rec_term_measure_fits_1 p0 p2 p3 p4) (fun (s1 : Int × Int) => (bn p0 :: (.func 197 [.ptr 0 0, .ptr 2 0] :: (u4 (.unk :: (.i (p0.length : Int) :: (.i s1.1 :: (u8 (u2 []))))))))) (fun (s1 : Int × Int) => [.box [.ptr 1 0], .box [.i s1.2, .i p2, .i p3], .box [.i p4]]) ho1 (fun _ => rfl) (li (.s (.s (.u4 (.u (.s (.s (.u8 (.u2 .n))))))))) ?_
 intro n1 s1 hs1 KL1 hKL1
 unfold lH at hs1
 refine .q fun K5 k5 => rg 0 ?_
 refine k5 _ _ ?_
 refine .q fun K6 k6 => ?_
 refine .aC rfl hs1 (fun hc1 hs1 => ?_) (fun hc1 hs1 => ?_)
 ·refine .skip ?_
  refine k6 _ _ ?_
  refine .q fun K7 k7 => ?_
  refine .block ?_
  refine .q fun K8 k8 => rg 0 ?_
  refine k8 _ _ ?_
  refine .q fun K9 k9 => rg 0 ?_
  obtain ⟨x1, hx1, hs1⟩ := ob hs1
  refine aJ (l := p0) (f := aS) (cs := [.i ((x1).op), .str ((x1).name), .i ((x1).n), .i (((x1).ty).kind), .str (((x1).ty).name), aI (((x1).ty).kids), bn ((x1).kids)]) hx1 (aX x1) rfl ?_
  obtain ⟨x2, hx2, hs1⟩ := ob hs1
  refine bM [0, 1, 2] [] [bg x1, .ptr 0 0, .ptr 2 0] [bg x1, .ptr 0 0, .ptr 2 0] (hrec_term_measure_fits_1 _ _ _ _ _ _ hx2) ap2 rfl (.cons (rfl) (.cons (rfl) (.cons (rfl) .nil))) (by simp; try decide) (.cons (.same _) (.cons (.same _) (.cons (.same _) .nil))) (rn := .bool x2.1) (rfl) (Hn := [.box [.ptr 1 0], .box [.i x2.2, .i p2, .i p3], .box [.i p4]]) ((bI (rfl) (bI (rfl) (bI (rfl) rfl)))) ?_
  refine k9 _ _ ?_
  refine .aC rfl hs1 (fun hc2 hs1 => ?_) (fun hc2 hs1 => ?_)
  ·refine .q fun K10 k10 => rg 0 ?_
   refine k10 _ _ ?_
   refine .ret ?_
   have e9 := sj hs1
   subst e9
   dsimp only [LR.el] at h
   have e9 := sj h
   subst e9
   refine hQ _ _ _ (dI (u4 (.i s1.1 :: (u8 (u4 (u2 []))))) [.box [.ptr 1 0], .box [.i x2.2, .i p2, .i p3], .box [.i p4]] (wk [some 0, some 1, some 2] (.u4 (.c rfl (.u8 (.u4 (.u2 .nil))))) (.b rfl (.c rfl .nil) (.b rfl (.c rfl (.c rfl (.c rfl .nil))) (.b rfl (.c rfl .nil) .nil))) rfl) (bP aD [0, 1, 2] rfl (.cons (rfl) (.cons (rfl) (.cons (rfl) .nil))) ?_))
   conv => whnf
   first | rfl | (simp; done) | (simp; rfl) | (simp; constructor <;> rfl)
  refine .skip ?_
  refine k7 _ _ ?_
  refine .know 5 0 fun hv1 => ?_
  refine .know 0 0 fun hv2 => ?_
  refine rg 0 ?_
  refine ⟨(s1.1 + 1), by have := dn hv1; have := eP hv2; have h8 := of_decide_eq_true hc1; exact bG (by omega) (by omega), ?_⟩
  exact hKL1 _ _ _ hs1 (li (.s (.s (.u4 (.u (.s (.s (.u8 (.u2 .n)))))))))
 refine .exit ?_
 exact hR1 _ (sj hs1).symm _ _ (li (.u16 (.u2 (.u .n))))
theorem Ca (n : Nat) (rec_slices_IndexFunc_Term : (List Tm) → Int → Int → Int → Int → Option (Int × Int)) (rec_slices_ContainsFunc_Term : (List Tm) → Int → Int → Int → Int → Option (Bool × Int)) (rec_term_measure_fits : Int → Int → Int → Tm → Int → Option (Bool × Int)) (rec_term_measure_fits_1 : Tm → Int → Int → Int → Int → Option (Bool × Int)) (hrec_slices_IndexFunc_Term : slices_IndexFunc_Term_S rec_slices_IndexFunc_Term) (hrec_slices_ContainsFunc_Term : slices_ContainsFunc_Term_S rec_slices_ContainsFunc_Term) (hrec_term_measure_fits : term_measure_fits_S rec_term_measure_fits) (hrec_term_measure_fits_1 : term_measure_fits_1_S rec_term_measure_fits_1) (p0 : List Tm) (p1 : Int) (p2 : Int) (p3 : Int) (p4 : Int) (r : Bool × Int) (h : jf n rec_slices_IndexFunc_Term rec_slices_ContainsFunc_Term rec_term_measure_fits rec_term_measure_fits_1 p0 p1 p2 p3 p4 = some r) : ak Tryz.prog 196 [bn p0, .func 197 [.ptr 0 0, .ptr 2 0]] [.box [.ptr 1 0], .box [.i p1, .i p2, .i p3], .box [.i p4]] (.bool r.1) [.box [.ptr 1 0], .box [.i r.2, .i p2, .i p3], .box [.i p4]] := by
 unfold jf at h
 refine ah true Tryz.func196 rfl (nt Tryz.ntmps196 rfl) fun Q hQ t ht => ?_
 conv at ht => whnf
 subst ht
 refine .q fun K1 k1 => rg 0 ?_
 refine k1 _ _ ?_
 refine .q fun K2 k2 => rg 0 ?_
 obtain ⟨x1, hx1, h⟩ := ob h
 refine bM [0, 1, 2] [] [bn p0, .func 197 [.ptr 0 0, .ptr 2 0]] [bn p0, .func 197 [.ptr 0 0, .ptr 2 0]] (hrec_slices_IndexFunc_Term _ _ _ _ _ _ hx1) apD rfl (.cons (rfl) (.cons (rfl) (.cons (rfl) .nil))) (by simp; try decide) (.cons (.same _) (.cons (.same _) .nil)) (rn := .i x1.1) (rfl) (Hn := [.box [.ptr 1 0], .box [.i x1.2, .i p2, .i p3], .box [.i p4]]) ((bI (rfl) (bI (rfl) (bI (rfl) rfl)))) ?_
 refine k2 _ _ ?_
 refine .ret ?_
 have e9 := sj h
 subst e9
 refine hQ _ _ _ (dI (u4 (.bool (decide (0 ≤ x1.1)) :: (u4 []))) [.box [.ptr 1 0], .box [.i x1.2, .i p2, .i p3], .box [.i p4]] (wk [some 0, some 1, some 2] (.u4 (.c rfl (.u4 .nil))) (.b rfl (.c rfl .nil) (.b rfl (.c rfl (.c rfl (.c rfl .nil))) (.b rfl (.c rfl .nil) .nil))) rfl) (bP aD [0, 1, 2] rfl (.cons (rfl) (.cons (rfl) (.cons (rfl) .nil))) ?_))
 conv => whnf
 first | rfl | (simp; done) | (simp; rfl) | (simp; constructor <;> rfl)
theorem Gj (n : Nat) (rec_slices_IndexFunc_Term : (List Tm) → Int → Int → Int → Int → Option (Int × Int)) (rec_slices_ContainsFunc_Term : (List Tm) → Int → Int → Int → Int → Option (Bool × Int)) (rec_term_measure_fits : Int → Int → Int → Tm → Int → Option (Bool × Int)) (rec_term_measure_fits_1 : Tm → Int → Int → Int → Int → Option (Bool × Int)) (hrec_slices_IndexFunc_Term : slices_IndexFunc_Term_S rec_slices_IndexFunc_Term) (hrec_slices_ContainsFunc_Term : slices_ContainsFunc_Term_S rec_slices_ContainsFunc_Term) (hrec_term_measure_fits : term_measure_fits_S rec_term_measure_fits) (hrec_term_measure_fits_1 : term_measure_fits_1_S rec_term_measure_fits_1) (p0 : Int) (p1 : Int) (p2 : Int) (p3 : Tm) (p4 : Int) (r : Bool × Int) (h : mK n rec_slices_IndexFunc_Term rec_slices_ContainsFunc_Term rec_term_measure_fits rec_term_measure_fits_1 p0 p1 p2 p3 p4 = some r) : ak Tryz.prog 130 [.ptr 0 0, bg p3, .i p4] [.box [.i p0, .i p1, .i p2]] (.bool r.1) [.box [.i r.2, .i p1, .i p2]] := by
 unfold mK at h
 refine ah true Tryz.func130 rfl (nt Tryz.ntmps130 rfl) fun Q hQ t ht => ?_
 conv at ht => whnf
 subst ht
 refine .q fun K1 k1 => rg 3 ?_
 refine k1 _ _ ?_
 refine .q fun K2 k2 => .q fun K3 k3 => ?_
 obtain ⟨s1, hj1, h⟩ := ob h
 have hR1 : ∀ t9 h9, Le 1 t9 h9 (u2 (.unk :: (.ptr 1 0 :: (.ptr 2 0 :: (.ptr 3 0 :: (u8 (.unk :: (.bool s1.1 :: (u4 (.unk :: [])))))))))) [.box [.i s1.2, .i p1, .i p2], .box [.ptr 0 0], .box [.i p3.op, .str p3.name, .i p3.n, .i p3.ty.kind, .str p3.ty.name, aI p3.ty.kids, bn p3.kids], .box [.i p4]] → K3 t9 h9 := by
  intro t9 h9 hw
  refine k3 _ _ (AW.le hw ?_)
  clear hw
  refine .aC rfl h (fun hc1 h => ?_) (fun hc1 h => ?_)
  ·refine .q fun K4 k4 => rg 0 ?_
   refine k4 _ _ ?_
   refine .ret ?_
   have e9 := sj h
   subst e9
   refine hQ _ _ _ (dI (u4 (u2 (.bool false :: (u8 (u4 (u2 [])))))) [.box [.i s1.2, .i p1, .i p2]] (wk [some 0] (.u4 (.u2 (.c rfl (.u8 (.u4 (.u2 .nil)))))) (.b rfl (.c rfl (.c rfl (.c rfl .nil))) .nil) rfl) (bP aD [0] rfl (.cons (rfl) .nil) ?_))
   conv => whnf
   first | rfl | (simp; done) | (simp; rfl) | (simp; constructor <;> rfl)
  refine .skip ?_
  refine k2 _ _ ?_
  refine .q fun K5 k5 => rg 0 ?_
  obtain ⟨x1, hx1, h⟩ := ob h
  refine bM [1, 0, 3] [] [bn p3.kids, .func 197 [.ptr 0 0, .ptr 2 0]] [bn p3.kids, .func 197 [.ptr 1 0, .ptr 3 0]] (hrec_slices_ContainsFunc_Term _ _ _ _ _ _ hx1) aoj rfl (.cons (rfl) (.cons (rfl) (.cons (rfl) .nil))) (by simp; try decide) (.cons (.same _) (.cons (.same _) .nil)) (rn := .bool x1.1) (rfl) (Hn := [.box [.ptr 0 0], .box [.i x1.2, .i p1, .i p2], .box [.i p4]]) ((bI (rfl) (bI (rfl) (bI (rfl) rfl)))) ?_
  refine k5 _ _ ?_
  refine .ret ?_
  have e9 := sj h
  subst e9
  refine hQ _ _ _ (dI (u4 (u2 (.bool (!x1.1) :: (u8 (u4 (u2 [])))))) [.box [.i x1.2, .i p1, .i p2]] (wk [some 0] (.u4 (.u2 (.c rfl (.u8 (.u4 (.u2 .nil)))))) (.b rfl (.c rfl (.c rfl (.c rfl .nil))) .nil) rfl) (bP aD [0] rfl (.cons (rfl) .nil) ?_))
  conv => whnf
  first | rfl | (simp; done) | (simp; rfl) | (simp; constructor <;> rfl)
 refine rg 0 ?_
 obtain ⟨x2, hx2, hj1⟩ := ob hj1
 refine bM [0] [] [.ptr 0 0, .i p4] [.ptr 0 0, .i p4] (Cw _ _ _ _ _ _ hx2) aho rfl (.cons (rfl) .nil) (rfl) (.cons (.same _) (.cons (.same _) .nil)) (rn := .bool x2.1) (rfl) (Hn := [.box [.i x2.2, .i p1, .i p2]]) ((bI (rfl) rfl)) ?_
 refine aH hj1 (fun hc2 hj1 => ?_) (fun hc2 hj1 => ?_)
 ·cases hj1
  exact hR1 _ _ (li (.u2 (.u (.s (.s (.s (.u8 (.u (.s (.u4 (.u .n)))))))))))
 obtain ⟨x3, hx3, hj1⟩ := ob hj1
 refine au (acn _ _ _ hx3) ap1 (.cons (.same _) .nil) (fun g => by simp) (fun g => rfl) ?_
 cases hj1
 exact hR1 _ _ (li (.u2 (.u (.s (.s (.s (.u8 (.u (.s (.u4 (.u .n)))))))))))
theorem Fb (n : Nat) (rec_slices_IndexFunc_Term : (List Tm) → Int → Int → Int → Int → Option (Int × Int)) (rec_slices_ContainsFunc_Term : (List Tm) → Int → Int → Int → Int → Option (Bool × Int)) (rec_term_measure_fits : Int → Int → Int → Tm → Int → Option (Bool × Int)) (rec_term_measure_fits_1 : Tm → Int → Int → Int → Int → Option (Bool × Int)) (hrec_slices_IndexFunc_Term : slices_IndexFunc_Term_S rec_slices_IndexFunc_Term) (hrec_slices_ContainsFunc_Term : slices_ContainsFunc_Term_S rec_slices_ContainsFunc_Term) (hrec_term_measure_fits : term_measure_fits_S rec_term_measure_fits) (hrec_term_measure_fits_1 : term_measure_fits_1_S rec_term_measure_fits_1) (p0 : Tm) (p1 : Int) (p2 : Int) (p3 : Int) (p4 : Int) (r : Bool × Int) (h : lG n rec_slices_IndexFunc_Term rec_slices_ContainsFunc_Term rec_term_measure_fits rec_term_measure_fits_1 p0 p1 p2 p3 p4 = some r) : ak Tryz.prog 197 [bg p0, .ptr 0 0, .ptr 2 0] [.box [.ptr 1 0], .box [.i p1, .i p2, .i p3], .box [.i p4]] (.bool r.1) [.box [.ptr 1 0], .box [.i r.2, .i p2, .i p3], .box [.i p4]] := by
 unfold lG at h
 refine ah true Tryz.func197 rfl (nt Tryz.ntmps197 rfl) fun Q hQ t ht => ?_
 conv at ht => whnf
 subst ht
 refine .q fun K1 k1 => rg 1 ?_
 refine k1 _ _ ?_
 refine .q fun K2 k2 => rg 0 ?_
 refine ⟨(IntKind.wrap .i64 (p4 + 1)), rfl, ?_⟩
 obtain ⟨x1, hx1, h⟩ := ob h
 refine bM [1] [] [.ptr 0 0, bg p0, .i (IntKind.wrap .i64 (p4 + 1))] [.ptr 1 0, bg p0, .i (IntKind.wrap .i64 (p4 + 1))] (hrec_term_measure_fits _ _ _ _ _ _ hx1) ais rfl (.cons (rfl) .nil) (by simp; try decide) (.cons (.same _) (.cons (.same _) (.cons (.same _) .nil))) (rn := .bool x1.1) (rfl) (Hn := [.box [.i x1.2, .i p2, .i p3]]) ((bI (rfl) rfl)) ?_
 refine k2 _ _ ?_
 refine .ret ?_
 have e9 := sj h
 subst e9
 refine hQ _ _ _ (dI (u4 (.bool (!x1.1) :: (u4 (u2 [])))) [.box [.ptr 1 0], .box [.i x1.2, .i p2, .i p3], .box [.i p4]] (wk [some 0, some 1, some 2] (.u4 (.c rfl (.u4 (.u2 .nil)))) (.b rfl (.c rfl .nil) (.b rfl (.c rfl (.c rfl (.c rfl .nil))) (.b rfl (.c rfl .nil) .nil))) rfl) (bP aD [0, 1, 2] rfl (.cons (rfl) (.cons (rfl) (.cons (rfl) .nil))) ?_))
 conv => whnf
 first | rfl | (simp; done) | (simp; rfl) | (simp; constructor <;> rfl)
theorem nX (n : Nat) : slices_IndexFunc_Term_S (gM n) ∧ slices_ContainsFunc_Term_S (eU n) ∧ term_measure_fits_S (gZ n) ∧ term_measure_fits_1_S (fH n) := by
 induction n with
 | zero => exact ⟨(fun p0 p1 p2 p3 p4 r h => by unfold gM at h; cases h), (fun p0 p1 p2 p3 p4 r h => by unfold eU at h; cases h), (fun p0 p1 p2 p3 p4 r h => by unfold gZ at h; cases h), (fun p0 p1 p2 p3 p4 r h => by unfold fH at h; cases h)⟩
 | succ n ih =>
  exact ⟨(fun p0 p1 p2 p3 p4 r h => Ed n _ _ _ _ ih.1 ih.2.1 ih.2.2.1 ih.2.2.2 p0 p1 p2 p3 p4 r (by unfold gM at h; exact h)), (fun p0 p1 p2 p3 p4 r h => Ca n _ _ _ _ ih.1 ih.2.1 ih.2.2.1 ih.2.2.2 p0 p1 p2 p3 p4 r (by unfold eU at h; exact h)), (fun p0 p1 p2 p3 p4 r h => Gj n _ _ _ _ ih.1 ih.2.1 ih.2.2.1 ih.2.2.2 p0 p1 p2 p3 p4 r (by unfold gZ at h; exact h)), (fun p0 p1 p2 p3 p4 r h => Fb n _ _ _ _ ih.1 ih.2.1 ih.2.2.1 ih.2.2.2 p0 p1 p2 p3 p4 r (by unfold fH at h; exact h))⟩
theorem Mr (n : Nat) : term_measure_fits_S (gZ n) := (nX n).2.2.1
theorem FV (n : Nat) (p0 : Tm) (r : Bool) (h : xI n p0 = some r) : ak Tryz.prog 66 [bg p0] [] (.bool r) [] := by
 unfold xI at h
 refine ah true Tryz.func66 rfl (nt Tryz.ntmps66 rfl) fun Q hQ t ht => ?_
 conv at ht => whnf
 subst ht
 refine .q fun K1 k1 => rg 1 ?_
 refine k1 _ _ ?_
 refine .q fun K2 k2 => rg 1 ?_
 refine k2 _ _ ?_
 refine .q fun K3 k3 => rg 0 ?_
 obtain ⟨x1, hx1, h⟩ := ob h
 refine bM [1] [] [.ptr 0 0, bg p0, .i 1] [.ptr 1 0, bg p0, .i 1] (Mr _ _ _ _ _ _ _ hx1) ais rfl (.cons (rfl) .nil) (by simp; try decide) (.cons (.same _) (.cons (.same _) (.cons (.same _) .nil))) (rn := .bool x1.1) (rfl) (Hn := [.box [.i x1.2, .i 2000, .i 64]]) ((bI (rfl) rfl)) ?_
 refine k3 _ _ ?_
 refine .ret ?_
 have e9 := sj h
 subst e9
 refine hQ _ _ _ (aj aD (fun g => rfl) ?_)
 conv => whnf
theorem iR (n : Nat) (p0 : Ty) (r : Ty) (h : Qa n p0 = some r) : ak Tryz.prog 138 [aV p0] [] (aV r) [] := by
 unfold Qa at h
 refine ah true Tryz.func138 rfl (nt Tryz.ntmps138 rfl) fun Q hQ t ht => ?_
 conv at ht => whnf
 subst ht
 refine .q fun K1 k1 => rg 2 ?_
 refine k1 _ _ ?_
 refine .q fun K2 k2 => rg 1 ?_
 refine ⟨List.map aK ([p0]), by simp only [List.map_cons, List.map_nil, aR]; rfl, ?_⟩
 refine k2 _ _ ?_
 refine .ret ?_
 have e9 := sj h
 subst e9
 refine hQ _ _ _ (aj aD (fun g => by simp) ?_)
 conv => whnf
 try rfl
end Abs
end Go.Proofs.YtiiaccpcoclklaaGreat
