/-
  Plain functions and the contracts of Go functions by them (printed by gen.py). Conditions: none.
-/
import Derived.KernelRfl
import Derived.Test.YtiiaccpcoclklaaGreatCData2x72b33f
import Derived.Test.YtiiaccpcoclklaaGreatCDfx223ef1
import Derived.Test.YtiiaccpcoclklaaGreatCTDx112680
import Derived.Test.YtiiaccpcoclklaaGreatCT1x4344bb
import Derived.Test.YtiiaccpcoclklaaGreatCT3x7a0152
import Derived.Test.YtiiaccpcoclklaaGreatCT5x6b892d
set_option linter.unusedSimpArgs false
set_option linter.unusedVariables false
namespace Go.Proofs.YtiiaccpcoclklaaGreat
namespace Abs
open Go Go.Proofs
set_option maxRecDepth 100000
set_option maxHeartbeats 40000000
theorem term_formed_ok (n : Nat) (p0 : Tm) (r : Bool) (h : term_formed n p0 = some r) : ACalls Tryz.prog 195 [aTm p0] [] (.bool r) [] := by
 unfold term_formed at h
 refine acalls_start true Tryz.func195 rfl (nt Tryz.ntmps195 rfl) fun Q hQ t ht => ?_
 conv at ht => whnf
 subst ht
 refine .q fun K1 k1 => rg 1 ?_
 refine k1 _ _ ?_
 refine .q fun K2 k2 => rg 0 ?_
 obtain ⟨x1, hx1, h⟩ := ob h
 refine call_pur (term_kids_ok _ _ _ hx1) okF_254 (.cons (.same _) .nil) (fun g => rfl) (fun g => by simp) ?_
 refine k2 _ _ ?_
 refine .q fun K3 k3 => ?_
 obtain ⟨o1, hj1, h⟩ := ob h
 have hR1 : ∀ s1 : Bool, o1 = .nx s1 → ∀ t9 h9, Le 0 t9 h9 (.unk :: (.ptr 0 0 :: (u2 (.bool s1 :: (u64 (u16 (u4 []))))))) [.box [.i p0.op, .str p0.name, .i p0.n, .i p0.ty.kind, .str p0.ty.name, sTy p0.ty.kids, sTm p0.kids]] → K3 t9 h9 := by
  intro s1 ho
  subst ho
  dsimp only [LR.el] at h
  intro t9 h9 hw
  refine k3 _ _ (AW.le hw ?_)
  clear hw
  refine .q fun K4 k4 => ?_
  obtain ⟨s2, hj2, h⟩ := ob h
  have hR2 : ∀ t9 h9, Le 0 t9 h9 (.unk :: (.ptr 0 0 :: (u2 (.bool s2 :: (u64 (u16 (u4 []))))))) [.box [.i p0.op, .str p0.name, .i p0.n, .i p0.ty.kind, .str p0.ty.name, sTy p0.ty.kids, sTm p0.kids]] → K4 t9 h9 := by
   intro t9 h9 hw
   refine k4 _ _ (AW.le hw ?_)
   clear hw
   refine .q fun K5 k5 => .q fun K6 k6 => rg 0 ?_
   refine k6 _ _ ?_
   refine .condS rfl h (fun hc1 h => ?_) (fun hc1 h => ?_)
   ·refine .q fun K7 k7 => ?_
    obtain ⟨s3, hj3, h⟩ := ob h
    have hR3 : ∀ t9 h9, Le 0 t9 h9 (u2 (.bool s3 :: (u64 (u16 (u4 (u2 [])))))) [] → K7 t9 h9 := by
     intro t9 h9 hw
     refine k7 _ _ (AW.le hw ?_)
     clear hw
     refine .ret ?_
     have e9 := sj h
     subst e9
     refine hQ _ _ _ (retPure τ_ok (fun g => rfl) ?_)
     conv => whnf
    refine rg 0 ?_
    refine onB_cond hj3 (fun hc2 hj3 => ?_) (fun hc2 hj3 => ?_)
    ·refine onB_cond hj3 (fun hc3 hj3 => ?_) (fun hc3 hj3 => ?_)
     ·obtain ⟨x2, hx2, hj3⟩ := ob hj3
      refine call_pur (term_ValidType_ok _ _ _ hx2) okF_92 (.cons (.same _) .nil) (fun g => by simp) (fun g => rfl) ?_
      cases hj3
      exact hR3 _ _ (wk [] (.u2 (.c rfl (.u64 (.u16 (.u4 (.u2 .nil)))))) .nil rfl)
     ·cases hj3
      exact hR3 _ _ (wk [] (.u2 (.c rfl (.u64 (.u16 (.u4 (.u2 .nil)))))) .nil rfl)
    ·cases hj3
     exact hR3 _ _ (wk [] (.u2 (.c rfl (.u64 (.u16 (.u4 (.u2 .nil)))))) .nil rfl)
   ·refine .skip ?_
    refine k5 _ _ ?_
    refine .q fun K8 k8 => ?_
    obtain ⟨s4, hj4, h⟩ := ob h
    have hR4 : ∀ t9 h9, Le 0 t9 h9 (u2 (.bool s4 :: (u64 (u16 (u4 (u2 [])))))) [] → K8 t9 h9 := by
     intro t9 h9 hw
     refine k8 _ _ (AW.le hw ?_)
     clear hw
     refine .ret ?_
     have e9 := sj h
     subst e9
     refine hQ _ _ _ (retPure τ_ok (fun g => rfl) ?_)
     conv => whnf
    refine rg 0 ?_
    refine onB_cond hj4 (fun hc4 hj4 => ?_) (fun hc4 hj4 => ?_)
    ·obtain ⟨x3, hx3, hj4⟩ := ob hj4
     refine call_pur (term_zeroType_ok _ _ _ hx3) okF_257 (.cons (.same _) .nil) (fun g => by simp) (fun g => rfl) ?_
     cases hj4
     exact hR4 _ _ (wk [] (.u2 (.c rfl (.u64 (.u16 (.u4 (.u2 .nil)))))) .nil rfl)
    ·cases hj4
     exact hR4 _ _ (wk [] (.u2 (.c rfl (.u64 (.u16 (.u4 (.u2 .nil)))))) .nil rfl)
  refine .q fun K9 k9 => rg 0 ?_
  refine k9 _ _ ?_
  refine .condS rfl hj2 (fun hc5 hj2 => ?_) (fun hc5 hj2 => ?_)
  ·refine rg 0 ?_
   refine onB_cond hj2 (fun hc6 hj2 => ?_) (fun hc6 hj2 => ?_)
   ·refine onB_cond hj2 (fun hc7 hj2 => ?_) (fun hc7 hj2 => ?_)
    ·cases hj2
     exact hR2 _ _ (li (.u (.s (.u2 (.s (.u16 (.u16 (.u16 (.u16 (.u16 (.u4 .n)))))))))))
    ·cases hj2
     exact hR2 _ _ (li (.u (.s (.u2 (.s (.u16 (.u16 (.u16 (.u16 (.u16 (.u4 .n)))))))))))
   ·cases hj2
    exact hR2 _ _ (li (.u (.s (.u2 (.s (.u16 (.u16 (.u16 (.u16 (.u16 (.u4 .n)))))))))))
  ·refine rg 0 ?_
   refine onB_cond hj2 (fun hc8 hj2 => ?_) (fun hc8 hj2 => ?_)
   ·cases hj2
    exact hR2 _ _ (li (.u (.s (.u2 (.s (.u16 (.u16 (.u16 (.u16 (.u16 (.u4 .n)))))))))))
   ·cases hj2
    exact hR2 _ _ (li (.u (.s (.u2 (.s (.u16 (.u16 (.u16 (.u16 (.u16 (.u4 .n)))))))))))
 refine .block ?_
 refine .q fun K10 k10 => ?_
 obtain ⟨s5, hj5, hj1⟩ := ob hj1
 have hR5 : ∀ t9 h9, Le 0 t9 h9 (.unk :: (.ptr 0 0 :: (u8 (u4 (.bool s5 :: (u64 (u8 (u2 [])))))))) [.box [.i p0.op, .str p0.name, .i p0.n, .i p0.ty.kind, .str p0.ty.name, sTy p0.ty.kids, sTm p0.kids]] → K10 t9 h9 := by
  intro t9 h9 hw
  refine k10 _ _ (AW.le hw ?_)
  clear hw
  refine .condS rfl hj1 (fun hc9 hj1 => ?_) (fun hc9 hj1 => ?_)
  ·refine .q fun K11 k11 => rg 0 ?_
   refine k11 _ _ ?_
   refine .ret ?_
   have e9 := sj hj1
   subst e9
   dsimp only [LR.el] at h
   have e9 := sj h
   subst e9
   refine hQ _ _ _ (retPure τ_ok (fun g => rfl) ?_)
   conv => whnf
  ·refine .q fun K12 k12 => rg 0 ?_
   refine k12 _ _ ?_
   refine .condS rfl hj1 (fun hc10 hj1 => ?_) (fun hc10 hj1 => ?_)
   ·refine rg 0 ?_
    obtain ⟨x4, hx4, hj1⟩ := ob hj1
    refine call_pur (term_named_ok _ _ _ hx4) okF_255 (.cons (.same _) .nil) (fun g => rfl) (fun g => rfl) ?_
    exact hR1 _ (sj hj1).symm _ _ (li (.u (.s (.u2 (.s (.u16 (.u16 (.u16 (.u16 (.u16 (.u4 .n)))))))))))
   ·refine .q fun K13 k13 => rg 0 ?_
    obtain ⟨x5, hx5, hj1⟩ := ob hj1
    refine call_pur (term_binder_ok _ _ _ hx5) okF_256 (.cons (.same _) .nil) (fun g => rfl) (fun g => rfl) ?_
    refine k13 _ _ ?_
    refine .condS rfl hj1 (fun hc11 hj1 => ?_) (fun hc11 hj1 => ?_)
    ·refine rg 0 ?_
     obtain ⟨x6, hx6, hj1⟩ := ob hj1
     refine call_pur (term_Identifier_ok _ _ _ hx6) okF_117 (.cons (.same _) .nil) (fun g => rfl) (fun g => rfl) ?_
     exact hR1 _ (sj hj1).symm _ _ (li (.u (.s (.u2 (.s (.u16 (.u16 (.u16 (.u16 (.u16 (.u4 .n)))))))))))
    ·refine rg 0 ?_
     exact hR1 _ (sj hj1).symm _ _ (li (.u (.s (.u2 (.s (.u16 (.u16 (.u16 (.u16 (.u16 (.u4 .n)))))))))))
 refine .q fun K14 k14 => rg 0 ?_
 refine k14 _ _ ?_
 refine .condS rfl hj5 (fun hc12 hj5 => ?_) (fun hc12 hj5 => ?_)
 ·refine .skip ?_
  cases hj5
  exact hR5 _ _ (li (.u (.s (.u8 (.u4 (.s (.u16 (.u16 (.u16 (.u16 (.u8 (.u2 .n))))))))))))
 ·refine .q fun K15 k15 => ?_
  obtain ⟨s6, hj6, hj5⟩ := ob hj5
  have hR6 : ∀ t9 h9, Le 0 t9 h9 (.unk :: (.ptr 0 0 :: (.unk :: (.i x1.1 :: (u8 (u2 (.bool s6 :: (u64 (u8 (u2 [])))))))))) [.box [.i p0.op, .str p0.name, .i p0.n, .i p0.ty.kind, .str p0.ty.name, sTy p0.ty.kids, sTm p0.kids]] → K15 t9 h9 := by
   intro t9 h9 hw
   refine k15 _ _ (AW.le hw ?_)
   clear hw
   refine .condS rfl hj5 (fun hc13 hj5 => ?_) (fun hc13 hj5 => ?_)
   ·refine .skip ?_
    cases hj5
    exact hR5 _ _ (li (.u (.s (.u8 (.u4 (.s (.u16 (.u16 (.u16 (.u16 (.u8 (.u2 .n))))))))))))
   ·refine rg 0 ?_
    refine onB_cond hj5 (fun hc14 hj5 => ?_) (fun hc14 hj5 => ?_)
    ·refine len_of (l := p0.kids) (f := encTm) ?_
     cases hj5
     exact hR5 _ _ (li (.u (.s (.u8 (.u4 (.s (.u16 (.u16 (.u16 (.u16 (.u8 (.u2 .n))))))))))))
    ·cases hj5
     exact hR5 _ _ (li (.u (.s (.u8 (.u4 (.s (.u16 (.u16 (.u16 (.u16 (.u8 (.u2 .n))))))))))))
  refine rg 0 ?_
  refine onB_cond hj6 (fun hc15 hj6 => ?_) (fun hc15 hj6 => ?_)
  ·refine len_of (l := p0.kids) (f := encTm) ?_
   cases hj6
   exact hR6 _ _ (li (.u (.s (.u (.s (.u8 (.u2 (.s (.u16 (.u16 (.u16 (.u16 (.u8 (.u2 .n))))))))))))))
  ·cases hj6
   exact hR6 _ _ (li (.u (.s (.u (.s (.u8 (.u2 (.s (.u16 (.u16 (.u16 (.u16 (.u8 (.u2 .n))))))))))))))
end Abs
end Go.Proofs.YtiiaccpcoclklaaGreat
namespace Go.Proofs.YtiiaccpcoclklaaGreat
namespace Abs
open Go Go.Proofs
set_option maxRecDepth 100000
set_option maxHeartbeats 40000000
abbrev slices_IndexFunc_Term_S (rec_slices_IndexFunc_Term : (List Tm) → Int → Int → Int → Int → Option (Int × Int)) : Prop := ∀ (p0 : List Tm) (p1 : Int) (p2 : Int) (p3 : Int) (p4 : Int) (r : Int × Int), rec_slices_IndexFunc_Term p0 p1 p2 p3 p4 = some r → ACalls Tryz.prog 258 [sTm p0, .func 197 [.ptr 0 0, .ptr 2 0]] [.box [.ptr 1 0], .box [.i p1, .i p2, .i p3], .box [.i p4]] (.i r.1) [.box [.ptr 1 0], .box [.i r.2, .i p2, .i p3], .box [.i p4]]
abbrev slices_ContainsFunc_Term_S (rec_slices_ContainsFunc_Term : (List Tm) → Int → Int → Int → Int → Option (Bool × Int)) : Prop := ∀ (p0 : List Tm) (p1 : Int) (p2 : Int) (p3 : Int) (p4 : Int) (r : Bool × Int), rec_slices_ContainsFunc_Term p0 p1 p2 p3 p4 = some r → ACalls Tryz.prog 196 [sTm p0, .func 197 [.ptr 0 0, .ptr 2 0]] [.box [.ptr 1 0], .box [.i p1, .i p2, .i p3], .box [.i p4]] (.bool r.1) [.box [.ptr 1 0], .box [.i r.2, .i p2, .i p3], .box [.i p4]]
abbrev term_measure_fits_S (rec_term_measure_fits : Int → Int → Int → Tm → Int → Option (Bool × Int)) : Prop := ∀ (p0 : Int) (p1 : Int) (p2 : Int) (p3 : Tm) (p4 : Int) (r : Bool × Int), rec_term_measure_fits p0 p1 p2 p3 p4 = some r → ACalls Tryz.prog 130 [.ptr 0 0, aTm p3, .i p4] [.box [.i p0, .i p1, .i p2]] (.bool r.1) [.box [.i r.2, .i p1, .i p2]]
abbrev term_measure_fits_1_S (rec_term_measure_fits_1 : Tm → Int → Int → Int → Int → Option (Bool × Int)) : Prop := ∀ (p0 : Tm) (p1 : Int) (p2 : Int) (p3 : Int) (p4 : Int) (r : Bool × Int), rec_term_measure_fits_1 p0 p1 p2 p3 p4 = some r → ACalls Tryz.prog 197 [aTm p0, .ptr 0 0, .ptr 2 0] [.box [.ptr 1 0], .box [.i p1, .i p2, .i p3], .box [.i p4]] (.bool r.1) [.box [.ptr 1 0], .box [.i r.2, .i p2, .i p3], .box [.i p4]]
theorem slices_IndexFunc_Term_body_ok (n : Nat) (rec_slices_IndexFunc_Term : (List Tm) → Int → Int → Int → Int → Option (Int × Int)) (rec_slices_ContainsFunc_Term : (List Tm) → Int → Int → Int → Int → Option (Bool × Int)) (rec_term_measure_fits : Int → Int → Int → Tm → Int → Option (Bool × Int)) (rec_term_measure_fits_1 : Tm → Int → Int → Int → Int → Option (Bool × Int)) (hrec_slices_IndexFunc_Term : slices_IndexFunc_Term_S rec_slices_IndexFunc_Term) (hrec_slices_ContainsFunc_Term : slices_ContainsFunc_Term_S rec_slices_ContainsFunc_Term) (hrec_term_measure_fits : term_measure_fits_S rec_term_measure_fits) (hrec_term_measure_fits_1 : term_measure_fits_1_S rec_term_measure_fits_1) (p0 : List Tm) (p1 : Int) (p2 : Int) (p3 : Int) (p4 : Int) (r : Int × Int) (h : slices_IndexFunc_Term_body n rec_slices_IndexFunc_Term rec_slices_ContainsFunc_Term rec_term_measure_fits rec_term_measure_fits_1 p0 p1 p2 p3 p4 = some r) : ACalls Tryz.prog 258 [sTm p0, .func 197 [.ptr 0 0, .ptr 2 0]] [.box [.ptr 1 0], .box [.i p1, .i p2, .i p3], .box [.i p4]] (.i r.1) [.box [.ptr 1 0], .box [.i r.2, .i p2, .i p3], .box [.i p4]] := by
 unfold slices_IndexFunc_Term_body at h
 refine acalls_start true Tryz.func258 rfl (nt Tryz.ntmps258 rfl) fun Q hQ t ht => ?_
 conv at ht => whnf
 subst ht
 refine .q fun K1 k1 => rg 0 ?_
 refine k1 _ _ ?_
 refine .q fun K2 k2 => .q fun K3 k3 => rg 0 ?_
 refine len_of (l := p0) (f := encTm) ?_
 refine k3 _ _ ?_
 refine .block ?_
 obtain ⟨o1, ho1, h⟩ := ob h
 have hR1 : ∀ s2 : Int, o1 = .nx s2 → ∀ t9 h9, Le 3 t9 h9 (u16 (u2 (.unk :: []))) [.box [.ptr 1 0], .box [.i s2, .i p2, .i p3], .box [.i p4]] → K2 t9 h9 := by
  intro s2 ho
  subst ho
  dsimp only [LR.el] at h
  intro t9 h9 hw
  refine k2 _ _ (AW.le hw ?_)
  refine .q fun K4 k4 => rg 0 ?_
  refine k4 _ _ ?_
  refine .ret ?_
  have e9 := sj h
  subst e9
  refine hQ _ _ _ (retW (u4 (.i (-1) :: (u8 (u4 (u2 []))))) [.box [.ptr 1 0], .box [.i s2, .i p2, .i p3], .box [.i p4]] (wk [some 0, some 1, some 2] (.u4 (.c rfl (.u8 (.u4 (.u2 .nil))))) (.b rfl (.c rfl .nil) (.b rfl (.c rfl (.c rfl (.c rfl .nil))) (.b rfl (.c rfl .nil) .nil))) rfl) (retObj τ_ok [0, 1, 2] rfl (.cons (rfl) (.cons (rfl) (.cons (rfl) .nil))) ?_))
  conv => whnf
  first | rfl | (simp; done) | (simp; rfl) | (simp; constructor <;> rfl)
 refine .loopS (slices_IndexFunc_Term_L0 n rec_slices_IndexFunc_Term rec_slices_ContainsFunc_Term rec_term_measure_fits rec_term_measure_fits_1 p0 p2 p3 p4) (fun (s1 : Int × Int) => (sTm p0 :: (.func 197 [.ptr 0 0, .ptr 2 0] :: (u4 (.unk :: (.i (p0.length : Int) :: (.i s1.1 :: (u8 (u2 []))))))))) (fun (s1 : Int × Int) => [.box [.ptr 1 0], .box [.i s1.2, .i p2, .i p3], .box [.i p4]]) ho1 (fun _ => rfl) (li (.s (.s (.u4 (.u (.s (.s (.u8 (.u2 .n))))))))) ?_
 intro n1 s1 hs1 KL1 hKL1
 unfold slices_IndexFunc_Term_L0 at hs1
 refine .q fun K5 k5 => rg 0 ?_
 refine k5 _ _ ?_
 refine .q fun K6 k6 => ?_
 refine .condS rfl hs1 (fun hc1 hs1 => ?_) (fun hc1 hs1 => ?_)
 ·refine .skip ?_
  refine k6 _ _ ?_
  refine .q fun K7 k7 => ?_
  refine .block ?_
  refine .q fun K8 k8 => rg 0 ?_
  refine k8 _ _ ?_
  refine .q fun K9 k9 => rg 0 ?_
  obtain ⟨x1, hx1, hs1⟩ := ob hs1
  refine idx_of (l := p0) (f := encTm) (cs := [.i ((x1).op), .str ((x1).name), .i ((x1).n), .i (((x1).ty).kind), .str (((x1).ty).name), sTy (((x1).ty).kids), sTm ((x1).kids)]) hx1 (encTm_eq x1) rfl ?_
  obtain ⟨x2, hx2, hs1⟩ := ob hs1
  refine call_gen [0, 1, 2] [] [aTm x1, .ptr 0 0, .ptr 2 0] [aTm x1, .ptr 0 0, .ptr 2 0] (hrec_term_measure_fits_1 _ _ _ _ _ _ hx2) okF_197 rfl (.cons (rfl) (.cons (rfl) (.cons (rfl) .nil))) (by simp; try decide) (.cons (.same _) (.cons (.same _) (.cons (.same _) .nil))) (rn := .bool x2.1) (rfl) (Hn := [.box [.ptr 1 0], .box [.i x2.2, .i p2, .i p3], .box [.i p4]]) ((rcons (rfl) (rcons (rfl) (rcons (rfl) rfl)))) ?_
  refine k9 _ _ ?_
  refine .condS rfl hs1 (fun hc2 hs1 => ?_) (fun hc2 hs1 => ?_)
  ·refine .q fun K10 k10 => rg 0 ?_
   refine k10 _ _ ?_
   refine .ret ?_
   have e9 := sj hs1
   subst e9
   dsimp only [LR.el] at h
   have e9 := sj h
   subst e9
   refine hQ _ _ _ (retW (u4 (.i s1.1 :: (u8 (u4 (u2 []))))) [.box [.ptr 1 0], .box [.i x2.2, .i p2, .i p3], .box [.i p4]] (wk [some 0, some 1, some 2] (.u4 (.c rfl (.u8 (.u4 (.u2 .nil))))) (.b rfl (.c rfl .nil) (.b rfl (.c rfl (.c rfl (.c rfl .nil))) (.b rfl (.c rfl .nil) .nil))) rfl) (retObj τ_ok [0, 1, 2] rfl (.cons (rfl) (.cons (rfl) (.cons (rfl) .nil))) ?_))
   conv => whnf
   first | rfl | (simp; done) | (simp; rfl) | (simp; constructor <;> rfl)
  ·refine .skip ?_
   refine k7 _ _ ?_
   refine .know 5 0 fun hv1 => ?_
   refine .know 0 0 fun hv2 => ?_
   refine rg 0 ?_
   refine ⟨(s1.1 + 1), by have := wf64 hv1; have := vfl hv2; have h8 := of_decide_eq_true hc1; exact w64_id (by omega) (by omega), ?_⟩
   exact hKL1 _ _ _ hs1 (li (.s (.s (.u4 (.u (.s (.s (.u8 (.u2 .n)))))))))
 ·refine .exit ?_
  exact hR1 _ (sj hs1).symm _ _ (li (.u16 (.u2 (.u .n))))
theorem slices_ContainsFunc_Term_body_ok (n : Nat) (rec_slices_IndexFunc_Term : (List Tm) → Int → Int → Int → Int → Option (Int × Int)) (rec_slices_ContainsFunc_Term : (List Tm) → Int → Int → Int → Int → Option (Bool × Int)) (rec_term_measure_fits : Int → Int → Int → Tm → Int → Option (Bool × Int)) (rec_term_measure_fits_1 : Tm → Int → Int → Int → Int → Option (Bool × Int)) (hrec_slices_IndexFunc_Term : slices_IndexFunc_Term_S rec_slices_IndexFunc_Term) (hrec_slices_ContainsFunc_Term : slices_ContainsFunc_Term_S rec_slices_ContainsFunc_Term) (hrec_term_measure_fits : term_measure_fits_S rec_term_measure_fits) (hrec_term_measure_fits_1 : term_measure_fits_1_S rec_term_measure_fits_1) (p0 : List Tm) (p1 : Int) (p2 : Int) (p3 : Int) (p4 : Int) (r : Bool × Int) (h : slices_ContainsFunc_Term_body n rec_slices_IndexFunc_Term rec_slices_ContainsFunc_Term rec_term_measure_fits rec_term_measure_fits_1 p0 p1 p2 p3 p4 = some r) : ACalls Tryz.prog 196 [sTm p0, .func 197 [.ptr 0 0, .ptr 2 0]] [.box [.ptr 1 0], .box [.i p1, .i p2, .i p3], .box [.i p4]] (.bool r.1) [.box [.ptr 1 0], .box [.i r.2, .i p2, .i p3], .box [.i p4]] := by
 unfold slices_ContainsFunc_Term_body at h
 refine acalls_start true Tryz.func196 rfl (nt Tryz.ntmps196 rfl) fun Q hQ t ht => ?_
 conv at ht => whnf
 subst ht
 refine .q fun K1 k1 => rg 0 ?_
 refine k1 _ _ ?_
 refine .q fun K2 k2 => rg 0 ?_
 obtain ⟨x1, hx1, h⟩ := ob h
 refine call_gen [0, 1, 2] [] [sTm p0, .func 197 [.ptr 0 0, .ptr 2 0]] [sTm p0, .func 197 [.ptr 0 0, .ptr 2 0]] (hrec_slices_IndexFunc_Term _ _ _ _ _ _ hx1) okF_258 rfl (.cons (rfl) (.cons (rfl) (.cons (rfl) .nil))) (by simp; try decide) (.cons (.same _) (.cons (.same _) .nil)) (rn := .i x1.1) (rfl) (Hn := [.box [.ptr 1 0], .box [.i x1.2, .i p2, .i p3], .box [.i p4]]) ((rcons (rfl) (rcons (rfl) (rcons (rfl) rfl)))) ?_
 refine k2 _ _ ?_
 refine .ret ?_
 have e9 := sj h
 subst e9
 refine hQ _ _ _ (retW (u4 (.bool (decide (0 ≤ x1.1)) :: (u4 []))) [.box [.ptr 1 0], .box [.i x1.2, .i p2, .i p3], .box [.i p4]] (wk [some 0, some 1, some 2] (.u4 (.c rfl (.u4 .nil))) (.b rfl (.c rfl .nil) (.b rfl (.c rfl (.c rfl (.c rfl .nil))) (.b rfl (.c rfl .nil) .nil))) rfl) (retObj τ_ok [0, 1, 2] rfl (.cons (rfl) (.cons (rfl) (.cons (rfl) .nil))) ?_))
 conv => whnf
 first | rfl | (simp; done) | (simp; rfl) | (simp; constructor <;> rfl)
theorem term_measure_fits_body_ok (n : Nat) (rec_slices_IndexFunc_Term : (List Tm) → Int → Int → Int → Int → Option (Int × Int)) (rec_slices_ContainsFunc_Term : (List Tm) → Int → Int → Int → Int → Option (Bool × Int)) (rec_term_measure_fits : Int → Int → Int → Tm → Int → Option (Bool × Int)) (rec_term_measure_fits_1 : Tm → Int → Int → Int → Int → Option (Bool × Int)) (hrec_slices_IndexFunc_Term : slices_IndexFunc_Term_S rec_slices_IndexFunc_Term) (hrec_slices_ContainsFunc_Term : slices_ContainsFunc_Term_S rec_slices_ContainsFunc_Term) (hrec_term_measure_fits : term_measure_fits_S rec_term_measure_fits) (hrec_term_measure_fits_1 : term_measure_fits_1_S rec_term_measure_fits_1) (p0 : Int) (p1 : Int) (p2 : Int) (p3 : Tm) (p4 : Int) (r : Bool × Int) (h : term_measure_fits_body n rec_slices_IndexFunc_Term rec_slices_ContainsFunc_Term rec_term_measure_fits rec_term_measure_fits_1 p0 p1 p2 p3 p4 = some r) : ACalls Tryz.prog 130 [.ptr 0 0, aTm p3, .i p4] [.box [.i p0, .i p1, .i p2]] (.bool r.1) [.box [.i r.2, .i p1, .i p2]] := by
 unfold term_measure_fits_body at h
 refine acalls_start true Tryz.func130 rfl (nt Tryz.ntmps130 rfl) fun Q hQ t ht => ?_
 conv at ht => whnf
 subst ht
 refine .q fun K1 k1 => rg 3 ?_
 refine k1 _ _ ?_
 refine .q fun K2 k2 => .q fun K3 k3 => ?_
 obtain ⟨s1, hj1, h⟩ := ob h
 have hR1 : ∀ t9 h9, Le 1 t9 h9 (u2 (.unk :: (.ptr 1 0 :: (.ptr 2 0 :: (.ptr 3 0 :: (u8 (.unk :: (.bool s1.1 :: (u4 (.unk :: [])))))))))) [.box [.i s1.2, .i p1, .i p2], .box [.ptr 0 0], .box [.i p3.op, .str p3.name, .i p3.n, .i p3.ty.kind, .str p3.ty.name, sTy p3.ty.kids, sTm p3.kids], .box [.i p4]] → K3 t9 h9 := by
  intro t9 h9 hw
  refine k3 _ _ (AW.le hw ?_)
  clear hw
  refine .condS rfl h (fun hc1 h => ?_) (fun hc1 h => ?_)
  ·refine .q fun K4 k4 => rg 0 ?_
   refine k4 _ _ ?_
   refine .ret ?_
   have e9 := sj h
   subst e9
   refine hQ _ _ _ (retW (u4 (u2 (.bool false :: (u8 (u4 (u2 [])))))) [.box [.i s1.2, .i p1, .i p2]] (wk [some 0] (.u4 (.u2 (.c rfl (.u8 (.u4 (.u2 .nil)))))) (.b rfl (.c rfl (.c rfl (.c rfl .nil))) .nil) rfl) (retObj τ_ok [0] rfl (.cons (rfl) .nil) ?_))
   conv => whnf
   first | rfl | (simp; done) | (simp; rfl) | (simp; constructor <;> rfl)
  ·refine .skip ?_
   refine k2 _ _ ?_
   refine .q fun K5 k5 => rg 0 ?_
   obtain ⟨x1, hx1, h⟩ := ob h
   refine call_gen [1, 0, 3] [] [sTm p3.kids, .func 197 [.ptr 0 0, .ptr 2 0]] [sTm p3.kids, .func 197 [.ptr 1 0, .ptr 3 0]] (hrec_slices_ContainsFunc_Term _ _ _ _ _ _ hx1) okF_196 rfl (.cons (rfl) (.cons (rfl) (.cons (rfl) .nil))) (by simp; try decide) (.cons (.same _) (.cons (.same _) .nil)) (rn := .bool x1.1) (rfl) (Hn := [.box [.ptr 0 0], .box [.i x1.2, .i p1, .i p2], .box [.i p4]]) ((rcons (rfl) (rcons (rfl) (rcons (rfl) rfl)))) ?_
   refine k5 _ _ ?_
   refine .ret ?_
   have e9 := sj h
   subst e9
   refine hQ _ _ _ (retW (u4 (u2 (.bool (!x1.1) :: (u8 (u4 (u2 [])))))) [.box [.i x1.2, .i p1, .i p2]] (wk [some 0] (.u4 (.u2 (.c rfl (.u8 (.u4 (.u2 .nil)))))) (.b rfl (.c rfl (.c rfl (.c rfl .nil))) .nil) rfl) (retObj τ_ok [0] rfl (.cons (rfl) .nil) ?_))
   conv => whnf
   first | rfl | (simp; done) | (simp; rfl) | (simp; constructor <;> rfl)
 refine rg 0 ?_
 obtain ⟨x2, hx2, hj1⟩ := ob hj1
 refine call_gen [0] [] [.ptr 0 0, .i p4] [.ptr 0 0, .i p4] (term_measure_enter_ok _ _ _ _ _ _ hx2) okF_194 rfl (.cons (rfl) .nil) (rfl) (.cons (.same _) (.cons (.same _) .nil)) (rn := .bool x2.1) (rfl) (Hn := [.box [.i x2.2, .i p1, .i p2]]) ((rcons (rfl) rfl)) ?_
 refine onB_cond hj1 (fun hc2 hj1 => ?_) (fun hc2 hj1 => ?_)
 ·cases hj1
  exact hR1 _ _ (li (.u2 (.u (.s (.s (.s (.u8 (.u (.s (.u4 (.u .n)))))))))))
 ·obtain ⟨x3, hx3, hj1⟩ := ob hj1
  refine call_pur (term_formed_ok _ _ _ hx3) okF_195 (.cons (.same _) .nil) (fun g => by simp) (fun g => rfl) ?_
  cases hj1
  exact hR1 _ _ (li (.u2 (.u (.s (.s (.s (.u8 (.u (.s (.u4 (.u .n)))))))))))
theorem term_measure_fits_1_body_ok (n : Nat) (rec_slices_IndexFunc_Term : (List Tm) → Int → Int → Int → Int → Option (Int × Int)) (rec_slices_ContainsFunc_Term : (List Tm) → Int → Int → Int → Int → Option (Bool × Int)) (rec_term_measure_fits : Int → Int → Int → Tm → Int → Option (Bool × Int)) (rec_term_measure_fits_1 : Tm → Int → Int → Int → Int → Option (Bool × Int)) (hrec_slices_IndexFunc_Term : slices_IndexFunc_Term_S rec_slices_IndexFunc_Term) (hrec_slices_ContainsFunc_Term : slices_ContainsFunc_Term_S rec_slices_ContainsFunc_Term) (hrec_term_measure_fits : term_measure_fits_S rec_term_measure_fits) (hrec_term_measure_fits_1 : term_measure_fits_1_S rec_term_measure_fits_1) (p0 : Tm) (p1 : Int) (p2 : Int) (p3 : Int) (p4 : Int) (r : Bool × Int) (h : term_measure_fits_1_body n rec_slices_IndexFunc_Term rec_slices_ContainsFunc_Term rec_term_measure_fits rec_term_measure_fits_1 p0 p1 p2 p3 p4 = some r) : ACalls Tryz.prog 197 [aTm p0, .ptr 0 0, .ptr 2 0] [.box [.ptr 1 0], .box [.i p1, .i p2, .i p3], .box [.i p4]] (.bool r.1) [.box [.ptr 1 0], .box [.i r.2, .i p2, .i p3], .box [.i p4]] := by
 unfold term_measure_fits_1_body at h
 refine acalls_start true Tryz.func197 rfl (nt Tryz.ntmps197 rfl) fun Q hQ t ht => ?_
 conv at ht => whnf
 subst ht
 refine .q fun K1 k1 => rg 1 ?_
 refine k1 _ _ ?_
 refine .q fun K2 k2 => rg 0 ?_
 refine ⟨(IntKind.wrap .i64 (p4 + 1)), rfl, ?_⟩
 obtain ⟨x1, hx1, h⟩ := ob h
 refine call_gen [1] [] [.ptr 0 0, aTm p0, .i (IntKind.wrap .i64 (p4 + 1))] [.ptr 1 0, aTm p0, .i (IntKind.wrap .i64 (p4 + 1))] (hrec_term_measure_fits _ _ _ _ _ _ hx1) okF_130 rfl (.cons (rfl) .nil) (by simp; try decide) (.cons (.same _) (.cons (.same _) (.cons (.same _) .nil))) (rn := .bool x1.1) (rfl) (Hn := [.box [.i x1.2, .i p2, .i p3]]) ((rcons (rfl) rfl)) ?_
 refine k2 _ _ ?_
 refine .ret ?_
 have e9 := sj h
 subst e9
 refine hQ _ _ _ (retW (u4 (.bool (!x1.1) :: (u4 (u2 [])))) [.box [.ptr 1 0], .box [.i x1.2, .i p2, .i p3], .box [.i p4]] (wk [some 0, some 1, some 2] (.u4 (.c rfl (.u4 (.u2 .nil)))) (.b rfl (.c rfl .nil) (.b rfl (.c rfl (.c rfl (.c rfl .nil))) (.b rfl (.c rfl .nil) .nil))) rfl) (retObj τ_ok [0, 1, 2] rfl (.cons (rfl) (.cons (rfl) (.cons (rfl) .nil))) ?_))
 conv => whnf
 first | rfl | (simp; done) | (simp; rfl) | (simp; constructor <;> rfl)
theorem slices_IndexFunc_Term_all (n : Nat) : slices_IndexFunc_Term_S (slices_IndexFunc_Term n) ∧ slices_ContainsFunc_Term_S (slices_ContainsFunc_Term n) ∧ term_measure_fits_S (term_measure_fits n) ∧ term_measure_fits_1_S (term_measure_fits_1 n) := by
 induction n with
 | zero => exact ⟨(fun p0 p1 p2 p3 p4 r h => by unfold slices_IndexFunc_Term at h; cases h), (fun p0 p1 p2 p3 p4 r h => by unfold slices_ContainsFunc_Term at h; cases h), (fun p0 p1 p2 p3 p4 r h => by unfold term_measure_fits at h; cases h), (fun p0 p1 p2 p3 p4 r h => by unfold term_measure_fits_1 at h; cases h)⟩
 | succ n ih =>
  exact ⟨(fun p0 p1 p2 p3 p4 r h => slices_IndexFunc_Term_body_ok n _ _ _ _ ih.1 ih.2.1 ih.2.2.1 ih.2.2.2 p0 p1 p2 p3 p4 r (by unfold slices_IndexFunc_Term at h; exact h)), (fun p0 p1 p2 p3 p4 r h => slices_ContainsFunc_Term_body_ok n _ _ _ _ ih.1 ih.2.1 ih.2.2.1 ih.2.2.2 p0 p1 p2 p3 p4 r (by unfold slices_ContainsFunc_Term at h; exact h)), (fun p0 p1 p2 p3 p4 r h => term_measure_fits_body_ok n _ _ _ _ ih.1 ih.2.1 ih.2.2.1 ih.2.2.2 p0 p1 p2 p3 p4 r (by unfold term_measure_fits at h; exact h)), (fun p0 p1 p2 p3 p4 r h => term_measure_fits_1_body_ok n _ _ _ _ ih.1 ih.2.1 ih.2.2.1 ih.2.2.2 p0 p1 p2 p3 p4 r (by unfold term_measure_fits_1 at h; exact h))⟩
theorem term_measure_fits_ok (n : Nat) : term_measure_fits_S (term_measure_fits n) := (slices_IndexFunc_Term_all n).2.2.1
theorem term_Valid_ok (n : Nat) (p0 : Tm) (r : Bool) (h : term_Valid n p0 = some r) : ACalls Tryz.prog 66 [aTm p0] [] (.bool r) [] := by
 unfold term_Valid at h
 refine acalls_start true Tryz.func66 rfl (nt Tryz.ntmps66 rfl) fun Q hQ t ht => ?_
 conv at ht => whnf
 subst ht
 refine .q fun K1 k1 => rg 1 ?_
 refine k1 _ _ ?_
 refine .q fun K2 k2 => rg 1 ?_
 refine k2 _ _ ?_
 refine .q fun K3 k3 => rg 0 ?_
 obtain ⟨x1, hx1, h⟩ := ob h
 refine call_gen [1] [] [.ptr 0 0, aTm p0, .i 1] [.ptr 1 0, aTm p0, .i 1] (term_measure_fits_ok _ _ _ _ _ _ _ hx1) okF_130 rfl (.cons (rfl) .nil) (by simp; try decide) (.cons (.same _) (.cons (.same _) (.cons (.same _) .nil))) (rn := .bool x1.1) (rfl) (Hn := [.box [.i x1.2, .i 2000, .i 64]]) ((rcons (rfl) rfl)) ?_
 refine k3 _ _ ?_
 refine .ret ?_
 have e9 := sj h
 subst e9
 refine hQ _ _ _ (retPure τ_ok (fun g => rfl) ?_)
 conv => whnf
theorem typing_setOf_ok (n : Nat) (p0 : Ty) (r : Ty) (h : typing_setOf n p0 = some r) : ACalls Tryz.prog 138 [aTy p0] [] (aTy r) [] := by
 unfold typing_setOf at h
 refine acalls_start true Tryz.func138 rfl (nt Tryz.ntmps138 rfl) fun Q hQ t ht => ?_
 conv at ht => whnf
 subst ht
 refine .q fun K1 k1 => rg 2 ?_
 refine k1 _ _ ?_
 refine .q fun K2 k2 => rg 1 ?_
 refine ⟨List.map encTy ([p0]), by simp only [List.map_cons, List.map_nil, encTy_eq]; rfl, ?_⟩
 refine k2 _ _ ?_
 refine .ret ?_
 have e9 := sj h
 subst e9
 refine hQ _ _ _ (retPure τ_ok (fun g => by simp) ?_)
 conv => whnf
 try rfl
end Abs
end Go.Proofs.YtiiaccpcoclklaaGreat
