/-
  Plain functions and the contracts of Go functions by them (printed by gen.py). Conditions: none.
-/
import Derived.KernelRfl
import Derived.Test.YtiiaccpcoclklaaGreatCAbs38xf390fb
import Derived.Test.YtiiaccpcoclklaaGreatCDfxb0d24e
import Derived.Test.YtiiaccpcoclklaaGreatCDgx37bbb7
import Derived.Test.YtiiaccpcoclklaaGreatCT8x276a20
import Derived.Test.YtiiaccpcoclklaaGreatCT9xb04805
set_option linter.unusedSimpArgs false
set_option linter.unusedVariables false
namespace Go.Proofs.YtiiaccpcoclklaaGreat
namespace Abs
open Go Go.Proofs
set_option maxRecDepth 100000
set_option maxHeartbeats 40000000
theorem typing_isTrue_ok (n : Nat) (p0 : Ty) (r : Ty) (h : typing_isTrue n p0 = some r) : ACalls Tryz.prog 214 [aTy p0] [] (aTy r) [] := by
 unfold typing_isTrue at h
 refine acalls_start true Tryz.func214 rfl (nt Tryz.ntmps214 rfl) fun Q hQ t ht => ?_
 conv at ht => whnf
 subst ht
 refine .q fun K1 k1 => rg 2 ?_
 refine k1 _ _ ?_
 refine .q fun K2 k2 => rg 0 ?_
 refine call_pur (typing_truth_ok 0 _ rfl) okF_199 .nil (fun g => rfl) (fun g => by simp) ?_
 refine k2 _ _ ?_
 refine .ret ?_
 have e9 := sj h
 subst e9
 refine hQ _ _ _ (retPure τ_ok (fun g => by simp) ?_)
 conv => whnf
 try rfl
theorem typing_body_1_1_ok (n : Nat) (p0 : List Ty) (r : Ty × Bool) (h : typing_body_1_1 n p0 = some r) : ACalls Tryz.prog 266 [sTy p0, .eptr [.func 214 []]] [] (.tup [aTy r.1, .bool r.2]) [] := by
 unfold typing_body_1_1 at h
 refine acalls_start true Tryz.func266 rfl (nt Tryz.ntmps266 rfl) fun Q hQ t ht => ?_
 conv at ht => whnf
 subst ht
 refine .q fun K1 k1 => rg 1 ?_
 refine k1 _ _ ?_
 refine .q fun K2 k2 => rg 0 ?_
 obtain ⟨x1, hx1, h⟩ := ob h
 refine idx_of (l := p0) (f := encTy) (cs := [.i ((x1).kind), .str ((x1).name), sTy ((x1).kids)]) hx1 (encTy_eq x1) rfl ?_
 refine cp (typing_isTrue_ok 0 x1 _ rfl) okF_214 (.cons (.same _) .nil) ?_
 obtain ⟨x2, hx2, h⟩ := ob h
 refine idx_of (l := p0) (f := encTy) (cs := [.i ((x2).kind), .str ((x2).name), sTy ((x2).kids)]) hx2 (encTy_eq x2) rfl ?_
 refine ⟨rfl, ?_⟩
 refine k2 _ _ ?_
 refine .ret ?_
 have e9 := sj h
 subst e9
 refine hQ _ _ _ (retPure τ_ok (fun g => by simp) ?_)
 conv => whnf
 try rfl
abbrev slices_EqualFunc_Type_S (rec_slices_EqualFunc_Type : (List Ty) → (List Ty) → Option Bool) : Prop := ∀ (p0 : List Ty) (p1 : List Ty) (r : Bool), rec_slices_EqualFunc_Type p0 p1 = some r → ACalls Tryz.prog 177 [sTy p0, sTy p1, .func 93 []] [] (.bool r) []
abbrev typing_equal_S (rec_typing_equal : Ty → Ty → Option Bool) : Prop := ∀ (p0 : Ty) (p1 : Ty) (r : Bool), rec_typing_equal p0 p1 = some r → ACalls Tryz.prog 93 [aTy p0, aTy p1] [] (.bool r) []
theorem slices_EqualFunc_Type_body_ok (n : Nat) (rec_slices_EqualFunc_Type : (List Ty) → (List Ty) → Option Bool) (rec_typing_equal : Ty → Ty → Option Bool) (hrec_slices_EqualFunc_Type : slices_EqualFunc_Type_S rec_slices_EqualFunc_Type) (hrec_typing_equal : typing_equal_S rec_typing_equal) (p0 : List Ty) (p1 : List Ty) (r : Bool) (h : slices_EqualFunc_Type_body n rec_slices_EqualFunc_Type rec_typing_equal p0 p1 = some r) : ACalls Tryz.prog 177 [sTy p0, sTy p1, .func 93 []] [] (.bool r) [] := by
 unfold slices_EqualFunc_Type_body at h
 refine acalls_start true Tryz.func177 rfl (nt Tryz.ntmps177 rfl) fun Q hQ t ht => ?_
 conv at ht => whnf
 subst ht
 refine .q fun K1 k1 => rg 0 ?_
 refine k1 _ _ ?_
 refine .q fun K2 k2 => .q fun K3 k3 => rg 0 ?_
 refine len_of (l := p0) (f := encTy) ?_
 refine len_of (l := p1) (f := encTy) ?_
 refine k3 _ _ ?_
 refine .condS rfl h (fun hc1 h => ?_) (fun hc1 h => ?_)
 ·refine .q fun K4 k4 => rg 0 ?_
  refine k4 _ _ ?_
  refine .ret ?_
  have e9 := sj h
  subst e9
  refine hQ _ _ _ (retPure τ_ok (fun g => rfl) ?_)
  conv => whnf
 ·refine .skip ?_
  refine k2 _ _ ?_
  refine .q fun K5 k5 => .q fun K6 k6 => rg 0 ?_
  refine len_of (l := p0) (f := encTy) ?_
  refine k6 _ _ ?_
  refine .block ?_
  obtain ⟨o1, ho1, h⟩ := ob h
  have hR1 : ∀ s2 : Unit, o1 = .nx s2 → ∀ t9 h9, Le 0 t9 h9 (u32 []) [] → K5 t9 h9 := by
   intro s2 ho
   subst ho
   dsimp only [LR.el] at h
   intro t9 h9 hw
   refine k5 _ _ (AW.le hw ?_)
   refine .q fun K7 k7 => rg 0 ?_
   refine k7 _ _ ?_
   refine .ret ?_
   have e9 := sj h
   subst e9
   refine hQ _ _ _ (retPure τ_ok (fun g => rfl) ?_)
   conv => whnf
  refine .loopS (slices_EqualFunc_Type_L0 n rec_slices_EqualFunc_Type rec_typing_equal p0 p1) (fun (s1 : Int) => (.unk :: (sTy p1 :: (.func 93 [] :: (u8 (u4 (sTy p0 :: (.i (p0.length : Int) :: (.i s1 :: (u8 (u4 (u2 [])))))))))))) (fun (s1 : Int) => []) ho1 (fun _ => rfl) (li (.u (.s (.s (.u8 (.u4 (.s (.s (.s (.u8 (.u4 (.u2 .n)))))))))))) ?_
  intro n1 s1 hs1 KL1 hKL1
  unfold slices_EqualFunc_Type_L0 at hs1
  refine .q fun K8 k8 => rg 0 ?_
  refine k8 _ _ ?_
  refine .q fun K9 k9 => ?_
  refine .condS rfl hs1 (fun hc2 hs1 => ?_) (fun hc2 hs1 => ?_)
  ·refine .skip ?_
   refine k9 _ _ ?_
   refine .q fun K10 k10 => ?_
   refine .block ?_
   refine .q fun K11 k11 => rg 1 ?_
   obtain ⟨x1, hx1, hs1⟩ := ob hs1
   refine idx_of (l := p0) (f := encTy) (cs := [.i ((x1).kind), .str ((x1).name), sTy ((x1).kids)]) hx1 (encTy_eq x1) rfl ?_
   refine k11 _ _ ?_
   refine .q fun K12 k12 => rg 1 ?_
   obtain ⟨x2, hx2, hs1⟩ := ob hs1
   refine idx_of (l := p1) (f := encTy) (cs := [.i ((x2).kind), .str ((x2).name), sTy ((x2).kids)]) hx2 (encTy_eq x2) rfl ?_
   refine k12 _ _ ?_
   refine .q fun K13 k13 => rg 0 ?_
   obtain ⟨x3, hx3, hs1⟩ := ob hs1
   refine call_pur (hrec_typing_equal _ _ _ hx3) okF_93 (.cons (.same _) (.cons (.same _) .nil)) (fun g => by simp) (fun g => rfl) ?_
   refine k13 _ _ ?_
   refine .condS rfl hs1 (fun hc3 hs1 => ?_) (fun hc3 hs1 => ?_)
   ·refine .q fun K14 k14 => rg 0 ?_
    refine k14 _ _ ?_
    refine .ret ?_
    have e9 := sj hs1
    subst e9
    dsimp only [LR.el] at h
    have e9 := sj h
    subst e9
    refine hQ _ _ _ (retPure τ_ok (fun g => rfl) ?_)
    conv => whnf
   ·refine .skip ?_
    refine k10 _ _ ?_
    refine .know 7 0 fun hv1 => ?_
    refine .know 15 0 fun hv2 => ?_
    refine rg 0 ?_
    refine ⟨(s1 + 1), by have := wf64 hv1; have := vfl hv2; have h8 := of_decide_eq_true hc2; exact w64_id (by omega) (by omega), ?_⟩
    exact hKL1 _ _ _ hs1 (wk [] (.u (.e renl_Ty (.cons (.func' .nil) (.u8 (.u4 (.e renl_Ty (.c rfl (.c rfl (.u8 (.u4 (.u2 .nil))))))))))) .nil rfl)
  ·refine .exit ?_
   exact hR1 _ (sj hs1).symm _ _ (li (.u16 (.u16 .n)))
theorem typing_equal_body_ok (n : Nat) (rec_slices_EqualFunc_Type : (List Ty) → (List Ty) → Option Bool) (rec_typing_equal : Ty → Ty → Option Bool) (hrec_slices_EqualFunc_Type : slices_EqualFunc_Type_S rec_slices_EqualFunc_Type) (hrec_typing_equal : typing_equal_S rec_typing_equal) (p0 : Ty) (p1 : Ty) (r : Bool) (h : typing_equal_body n rec_slices_EqualFunc_Type rec_typing_equal p0 p1 = some r) : ACalls Tryz.prog 93 [aTy p0, aTy p1] [] (.bool r) [] := by
 unfold typing_equal_body at h
 refine acalls_start true Tryz.func93 rfl (nt Tryz.ntmps93 rfl) fun Q hQ t ht => ?_
 conv at ht => whnf
 subst ht
 refine .q fun K1 k1 => rg 2 ?_
 refine k1 _ _ ?_
 refine .q fun K2 k2 => ?_
 obtain ⟨s1, hj1, h⟩ := ob h
 have hR1 : ∀ t9 h9, Le 0 t9 h9 (u4 (.bool s1 :: (u16 (u2 (.unk :: []))))) [] → K2 t9 h9 := by
  intro t9 h9 hw
  refine k2 _ _ (AW.le hw ?_)
  clear hw
  refine .ret ?_
  have e9 := sj h
  subst e9
  refine hQ _ _ _ (retPure τ_ok (fun g => rfl) ?_)
  conv => whnf
 refine rg 0 ?_
 refine onB_cond hj1 (fun hc1 hj1 => ?_) (fun hc1 hj1 => ?_)
 ·refine onB_cond hj1 (fun hc2 hj1 => ?_) (fun hc2 hj1 => ?_)
  ·obtain ⟨x1, hx1, hj1⟩ := ob hj1
   refine call_pur (hrec_slices_EqualFunc_Type _ _ _ hx1) okF_177 (.cons (.same _) (.cons (.same _) (.cons (.same _) .nil))) (fun g => by simp) (fun g => rfl) ?_
   cases hj1
   exact hR1 _ _ (wk [] (.u4 (.c rfl (.u16 (.u2 (.u .nil))))) .nil rfl)
  ·cases hj1
   exact hR1 _ _ (wk [] (.u4 (.c rfl (.u16 (.u2 (.u .nil))))) .nil rfl)
 ·cases hj1
  exact hR1 _ _ (wk [] (.u4 (.c rfl (.u16 (.u2 (.u .nil))))) .nil rfl)
theorem slices_EqualFunc_Type_all (n : Nat) : slices_EqualFunc_Type_S (slices_EqualFunc_Type n) ∧ typing_equal_S (typing_equal n) := by
 induction n with
 | zero => exact ⟨(fun p0 p1 r h => by unfold slices_EqualFunc_Type at h; cases h), (fun p0 p1 r h => by unfold typing_equal at h; cases h)⟩
 | succ n ih =>
  exact ⟨(fun p0 p1 r h => slices_EqualFunc_Type_body_ok n _ _ ih.1 ih.2 p0 p1 r (by unfold slices_EqualFunc_Type at h; exact h)), (fun p0 p1 r h => typing_equal_body_ok n _ _ ih.1 ih.2 p0 p1 r (by unfold typing_equal at h; exact h))⟩
theorem typing_equal_ok (n : Nat) : typing_equal_S (typing_equal n) := (slices_EqualFunc_Type_all n).2
theorem typing_alike_1_ok (n : Nat) (p0 : Ty) (p1 : List Ty) (r : Bool) (h : typing_alike_1 n p0 p1 = some r) : ACalls Tryz.prog 261 [aTy p0, .ptr 0 0] [.box [sTy p1]] (.bool r) [.box [sTy p1]] := by
 unfold typing_alike_1 at h
 refine acalls_start true Tryz.func261 rfl (nt Tryz.ntmps261 rfl) fun Q hQ t ht => ?_
 conv at ht => whnf
 subst ht
 refine .q fun K1 k1 => rg 1 ?_
 refine k1 _ _ ?_
 refine .q fun K2 k2 => rg 0 ?_
 obtain ⟨x1, hx1, h⟩ := ob h
 refine idx_of (l := p1) (f := encTy) (cs := [.i ((x1).kind), .str ((x1).name), sTy ((x1).kids)]) hx1 (encTy_eq x1) rfl ?_
 obtain ⟨x2, hx2, h⟩ := ob h
 refine call_pur (typing_equal_ok _ _ _ _ hx2) okF_93 (.cons (.same _) (.cons (.same _) .nil)) (fun g => by simp) (fun g => rfl) ?_
 refine ⟨rfl, ?_⟩
 refine k2 _ _ ?_
 refine .ret ?_
 have e9 := sj h
 subst e9
 refine hQ _ _ _ (retW (u2 (.unk :: (.bool (!x2) :: (u4 (u2 []))))) [.box [sTy p1]] (wk [some 0] (.u2 (.u (.c rfl (.u4 (.u2 .nil))))) (.b rfl (.e renl_Ty .nil) .nil) rfl) (retObj τ_ok [0] rfl (.cons (by simp only [renO, ren, renL, renLL, renT, renL_app, renl_I, renl_S, renl_U8, renl_Ty, renl_Tm, renl_Carrier, renl_Decl, rowC0_ren]; try rfl) .nil) ?_))
 conv => whnf
 first | rfl | (simp; done) | (simp; rfl) | (simp; constructor <;> rfl)
theorem slices_IndexFunc_Type_3_ok (n : Nat) (p0 : List Ty) (p1 : List Ty) (r : Int) (h : slices_IndexFunc_Type_3 n p0 p1 = some r) : ACalls Tryz.prog 245 [sTy p0, .func 261 [.ptr 0 0]] [.box [sTy p1]] (.i r) [.box [sTy p1]] := by
 unfold slices_IndexFunc_Type_3 at h
 refine acalls_start true Tryz.func245 rfl (nt Tryz.ntmps245 rfl) fun Q hQ t ht => ?_
 conv at ht => whnf
 subst ht
 refine .q fun K1 k1 => rg 0 ?_
 refine k1 _ _ ?_
 refine .q fun K2 k2 => .q fun K3 k3 => rg 0 ?_
 refine len_of (l := p0) (f := encTy) ?_
 refine k3 _ _ ?_
 refine .block ?_
 obtain ⟨o1, ho1, h⟩ := ob h
 have hR1 : ∀ s2 : Unit, o1 = .nx s2 → ∀ t9 h9, Le 1 t9 h9 (u16 (u2 (.unk :: []))) [.box [sTy p1]] → K2 t9 h9 := by
  intro s2 ho
  subst ho
  dsimp only [LR.el] at h
  intro t9 h9 hw
  refine k2 _ _ (AW.le hw ?_)
  refine .q fun K4 k4 => rg 0 ?_
  refine k4 _ _ ?_
  refine .ret ?_
  have e9 := sj h
  subst e9
  refine hQ _ _ _ (retW (u4 (.i (-1) :: (u8 (u4 (u2 []))))) [.box [sTy p1]] (wk [some 0] (.u4 (.c rfl (.u8 (.u4 (.u2 .nil))))) (.b rfl (.e renl_Ty .nil) .nil) rfl) (retObj τ_ok [0] rfl (.cons (by simp only [renO, ren, renL, renLL, renT, renL_app, renl_I, renl_S, renl_U8, renl_Ty, renl_Tm, renl_Carrier, renl_Decl, rowC0_ren]; try rfl) .nil) ?_))
  conv => whnf
  first | rfl | (simp; done) | (simp; rfl) | (simp; constructor <;> rfl)
 refine .loopS (slices_IndexFunc_Type_3_L0 n p0 p1) (fun (s1 : Int) => (sTy p0 :: (.func 261 [.ptr 0 0] :: (u4 (.unk :: (.i (p0.length : Int) :: (.i s1 :: (u8 (u2 []))))))))) (fun (s1 : Int) => [.box [sTy p1]]) ho1 (fun _ => rfl) (li (.s (.s (.u4 (.u (.s (.s (.u8 (.u2 .n))))))))) ?_
 intro n1 s1 hs1 KL1 hKL1
 unfold slices_IndexFunc_Type_3_L0 at hs1
 refine .q fun K5 k5 => rg 0 ?_
 refine k5 _ _ ?_
 refine .q fun K6 k6 => ?_
 refine .condS rfl hs1 (fun hc1 hs1 => ?_) (fun hc1 hs1 => ?_)
 ·refine .skip ?_
  refine k6 _ _ ?_
  refine .q fun K7 k7 => ?_
  refine .block ?_
  refine .q fun K8 k8 => rg 0 ?_
  refine k8 _ _ ?_
  refine .q fun K9 k9 => rg 0 ?_
  obtain ⟨x1, hx1, hs1⟩ := ob hs1
  refine idx_of (l := p0) (f := encTy) (cs := [.i ((x1).kind), .str ((x1).name), sTy ((x1).kids)]) hx1 (encTy_eq x1) rfl ?_
  obtain ⟨x2, hx2, hs1⟩ := ob hs1
  refine call_gen [0] [] [aTy x1, .ptr 0 0] [aTy x1, .ptr 0 0] (typing_alike_1_ok _ _ _ _ hx2) okF_261 rfl (.cons (by simp only [renO, ren, renL, renLL, renT, renL_app, renl_I, renl_S, renl_U8, renl_Ty, renl_Tm, renl_Carrier, renl_Decl, rowC0_ren]; try rfl) .nil) (by simp; try decide) (.cons (.same _) (.cons (.same _) .nil)) (rn := .bool x2) (rfl) (Hn := [.box [sTy p1]]) ((rcons (by simp only [renO, ren, renL, renLL, renT, renL_app, renl_I, renl_S, renl_U8, renl_Ty, renl_Tm, renl_Carrier, renl_Decl, rowC0_ren]; try rfl) rfl)) ?_
  refine k9 _ _ ?_
  refine .condS rfl hs1 (fun hc2 hs1 => ?_) (fun hc2 hs1 => ?_)
  ·refine .q fun K10 k10 => rg 0 ?_
   refine k10 _ _ ?_
   refine .ret ?_
   have e9 := sj hs1
   subst e9
   dsimp only [LR.el] at h
   have e9 := sj h
   subst e9
   refine hQ _ _ _ (retW (u4 (.i s1 :: (u8 (u4 (u2 []))))) [.box [sTy p1]] (wk [some 0] (.u4 (.c rfl (.u8 (.u4 (.u2 .nil))))) (.b rfl (.e renl_Ty .nil) .nil) rfl) (retObj τ_ok [0] rfl (.cons (by simp only [renO, ren, renL, renLL, renT, renL_app, renl_I, renl_S, renl_U8, renl_Ty, renl_Tm, renl_Carrier, renl_Decl, rowC0_ren]; try rfl) .nil) ?_))
   conv => whnf
   first | rfl | (simp; done) | (simp; rfl) | (simp; constructor <;> rfl)
  ·refine .skip ?_
   refine k7 _ _ ?_
   refine .know 5 0 fun hv1 => ?_
   refine .know 0 0 fun hv2 => ?_
   refine rg 0 ?_
   refine ⟨(s1 + 1), by have := wf64 hv1; have := vfl hv2; have h8 := of_decide_eq_true hc1; exact w64_id (by omega) (by omega), ?_⟩
   exact hKL1 _ _ _ hs1 (li (.s (.s (.u4 (.u (.s (.s (.u8 (.u2 .n)))))))))
 ·refine .exit ?_
  exact hR1 _ (sj hs1).symm _ _ (li (.u16 (.u2 (.u .n))))
theorem slices_ContainsFunc_Type_3_ok (n : Nat) (p0 : List Ty) (p1 : List Ty) (r : Bool) (h : slices_ContainsFunc_Type_3 n p0 p1 = some r) : ACalls Tryz.prog 178 [sTy p0, .func 261 [.ptr 0 0]] [.box [sTy p1]] (.bool r) [.box [sTy p1]] := by
 unfold slices_ContainsFunc_Type_3 at h
 refine acalls_start true Tryz.func178 rfl (nt Tryz.ntmps178 rfl) fun Q hQ t ht => ?_
 conv at ht => whnf
 subst ht
 refine .q fun K1 k1 => rg 0 ?_
 refine k1 _ _ ?_
 refine .q fun K2 k2 => rg 0 ?_
 obtain ⟨x1, hx1, h⟩ := ob h
 refine call_gen [0] [] [sTy p0, .func 261 [.ptr 0 0]] [sTy p0, .func 261 [.ptr 0 0]] (slices_IndexFunc_Type_3_ok _ _ _ _ hx1) okF_245 rfl (.cons (by simp only [renO, ren, renL, renLL, renT, renL_app, renl_I, renl_S, renl_U8, renl_Ty, renl_Tm, renl_Carrier, renl_Decl, rowC0_ren]; try rfl) .nil) (by simp; try decide) (.cons (.same _) (.cons (.same _) .nil)) (rn := .i x1) (rfl) (Hn := [.box [sTy p1]]) ((rcons (by simp only [renO, ren, renL, renLL, renT, renL_app, renl_I, renl_S, renl_U8, renl_Ty, renl_Tm, renl_Carrier, renl_Decl, rowC0_ren]; try rfl) rfl)) ?_
 refine k2 _ _ ?_
 refine .ret ?_
 have e9 := sj h
 subst e9
 refine hQ _ _ _ (retW (u4 (.bool (decide (0 ≤ x1)) :: (u4 []))) [.box [sTy p1]] (wk [some 0] (.u4 (.c rfl (.u4 .nil))) (.b rfl (.e renl_Ty .nil) .nil) rfl) (retObj τ_ok [0] rfl (.cons (by simp only [renO, ren, renL, renLL, renT, renL_app, renl_I, renl_S, renl_U8, renl_Ty, renl_Tm, renl_Carrier, renl_Decl, rowC0_ren]; try rfl) .nil) ?_))
 conv => whnf
 first | rfl | (simp; done) | (simp; rfl) | (simp; constructor <;> rfl)
theorem typing_alike_ok (n : Nat) (p0 : List Ty) (r : Bool) (h : typing_alike n p0 = some r) : ACalls Tryz.prog 202 [sTy p0] [] (.bool r) [] := by
 unfold typing_alike at h
 refine acalls_start true Tryz.func202 rfl (nt Tryz.ntmps202 rfl) fun Q hQ t ht => ?_
 conv at ht => whnf
 subst ht
 refine .q fun K1 k1 => rg 1 ?_
 refine k1 _ _ ?_
 refine .q fun K2 k2 => ?_
 obtain ⟨s1, hj1, h⟩ := ob h
 have hR1 : ∀ t9 h9, Le 0 t9 h9 (u2 (.bool s1 :: (u8 (u2 (.unk :: []))))) [] → K2 t9 h9 := by
  intro t9 h9 hw
  refine k2 _ _ (AW.le hw ?_)
  clear hw
  refine .ret ?_
  have e9 := sj h
  subst e9
  refine hQ _ _ _ (retPure τ_ok (fun g => rfl) ?_)
  conv => whnf
 refine rg 0 ?_
 obtain ⟨x1, hx1, hj1⟩ := ob hj1
 refine idx_of (l := p0) (f := encTy) (cs := [.i ((x1).kind), .str ((x1).name), sTy ((x1).kids)]) hx1 (encTy_eq x1) rfl ?_
 refine onB_cond hj1 (fun hc1 hj1 => ?_) (fun hc1 hj1 => ?_)
 ·obtain ⟨x2, hx2, hj1⟩ := ob hj1
  refine call_gen [0] [] [sTy p0, .func 261 [.ptr 0 0]] [sTy p0, .func 261 [.ptr 0 0]] (slices_ContainsFunc_Type_3_ok _ _ _ _ hx2) okF_178 rfl (.cons (by simp only [renO, ren, renL, renLL, renT, renL_app, renl_I, renl_S, renl_U8, renl_Ty, renl_Tm, renl_Carrier, renl_Decl, rowC0_ren]; try rfl) .nil) (by simp; try decide) (.cons (.same _) (.cons (.same _) .nil)) (rn := .bool x2) (rfl) (Hn := [.box [sTy p0]]) ((rcons (by simp only [renO, ren, renL, renLL, renT, renL_app, renl_I, renl_S, renl_U8, renl_Ty, renl_Tm, renl_Carrier, renl_Decl, rowC0_ren]; try rfl) rfl)) ?_
  cases hj1
  exact hR1 _ _ (wk [] (.u2 (.c rfl (.u8 (.u2 (.u .nil))))) .nil rfl)
 ·cases hj1
  exact hR1 _ _ (wk [] (.u2 (.c rfl (.u8 (.u2 (.u .nil))))) .nil rfl)
theorem typing_rows_1_ok (n : Nat) (p0 : List Ty) (r : Ty × Bool) (h : typing_rows_1 n p0 = some r) : ACalls Tryz.prog 201 [sTy p0] [] (.tup [aTy r.1, .bool r.2]) [] := by
 unfold typing_rows_1 at h
 refine acalls_start true Tryz.func201 rfl (nt Tryz.ntmps201 rfl) fun Q hQ t ht => ?_
 conv at ht => whnf
 subst ht
 refine .q fun K1 k1 => rg 1 ?_
 refine k1 _ _ ?_
 refine .q fun K2 k2 => rg 0 ?_
 refine call_pur (typing_truth_ok 0 _ rfl) okF_199 .nil (fun g => rfl) (fun g => by simp) ?_
 obtain ⟨x1, hx1, h⟩ := ob h
 refine call_pur (typing_alike_ok _ _ _ hx1) okF_202 (.cons (.same _) .nil) (fun g => by simp) (fun g => rfl) ?_
 refine k2 _ _ ?_
 refine .ret ?_
 have e9 := sj h
 subst e9
 refine hQ _ _ _ (retPure τ_ok (fun g => by simp) ?_)
 conv => whnf
 try rfl
theorem typing_member_ok (n : Nat) (p0 : List Ty) (r : Ty × Bool) (h : typing_member n p0 = some r) : ACalls Tryz.prog 216 [sTy p0] [] (.tup [aTy r.1, .bool r.2]) [] := by
 unfold typing_member at h
 refine acalls_start true Tryz.func216 rfl (nt Tryz.ntmps216 rfl) fun Q hQ t ht => ?_
 conv at ht => whnf
 subst ht
 refine .q fun K1 k1 => rg 1 ?_
 refine k1 _ _ ?_
 refine .q fun K2 k2 => rg 1 ?_
 obtain ⟨x1, hx1, h⟩ := ob h
 refine idx_of (l := p0) (f := encTy) (cs := [.i ((x1).kind), .str ((x1).name), sTy ((x1).kids)]) hx1 (encTy_eq x1) rfl ?_
 obtain ⟨x2, hx2, h⟩ := ob h
 refine cp (typing_elementOf_ok _ _ _ hx2) okF_134 (.cons (.same _) .nil) ?_
 refine k2 _ _ ?_
 refine .q fun K3 k3 => ?_
 obtain ⟨s1, hj1, h⟩ := ob h
 have hR1 : ∀ t9 h9, Le 0 t9 h9 (u2 (.ptr 0 0 :: (.bool s1 :: (u16 (u2 []))))) [.box [.i 2, .str ([] : Str), sTy ([])]] → K3 t9 h9 := by
  intro t9 h9 hw
  refine k3 _ _ (AW.le hw ?_)
  clear hw
  refine .ret ?_
  have e9 := sj h
  subst e9
  refine hQ _ _ _ (retPure τ_ok (fun g => by simp) ?_)
  conv => whnf
  try rfl
 refine rg 0 ?_
 refine call_pur (typing_truth_ok 0 _ rfl) okF_199 .nil (fun g => rfl) (fun g => by simp) ?_
 refine onB_cond hj1 (fun hc1 hj1 => ?_) (fun hc1 hj1 => ?_)
 ·obtain ⟨x3, hx3, hj1⟩ := ob hj1
  refine idx_of (l := p0) (f := encTy) (cs := [.i ((x3).kind), .str ((x3).name), sTy ((x3).kids)]) hx3 (encTy_eq x3) rfl ?_
  obtain ⟨x4, hx4, hj1⟩ := ob hj1
  refine call_pur (typing_equal_ok _ _ _ _ hx4) okF_93 (.cons (.same _) (.cons (.same _) .nil)) (fun g => by simp) (fun g => rfl) ?_
  refine ⟨rfl, ?_⟩
  cases hj1
  exact hR1 _ _ (wk [some 0] (.u2 (.c rfl (.c rfl (.u16 (.u2 .nil))))) (.b rfl (.c rfl (.c rfl (.e renl_Ty .nil))) .nil) rfl)
 ·refine ⟨rfl, ?_⟩
  cases hj1
  exact hR1 _ _ (wk [some 0] (.u2 (.c rfl (.c rfl (.u16 (.u2 .nil))))) (.b rfl (.c rfl (.c rfl (.e renl_Ty .nil))) .nil) rfl)
theorem typing_sets_1_1_ok (n : Nat) (p0 : List Ty) (r : Ty × Bool) (h : typing_sets_1_1 n p0 = some r) : ACalls Tryz.prog 267 [sTy p0, .eptr [.func 214 []]] [] (.tup [aTy r.1, .bool r.2]) [] := by
 unfold typing_sets_1_1 at h
 refine acalls_start true Tryz.func267 rfl (nt Tryz.ntmps267 rfl) fun Q hQ t ht => ?_
 conv at ht => whnf
 subst ht
 refine .q fun K1 k1 => rg 1 ?_
 refine k1 _ _ ?_
 refine .q fun K2 k2 => ?_
 obtain ⟨s1, hj1, h⟩ := ob h
 have hR1 : ∀ t9 h9, Le 0 t9 h9 (u2 (.unk :: (.ptr 0 0 :: (.bool s1 :: (u8 (u4 (u2 []))))))) [.box [.i 2, .str ([] : Str), sTy ([])]] → K2 t9 h9 := by
  intro t9 h9 hw
  refine k2 _ _ (AW.le hw ?_)
  clear hw
  refine .ret ?_
  have e9 := sj h
  subst e9
  refine hQ _ _ _ (retPure τ_ok (fun g => by simp) ?_)
  conv => whnf
  try rfl
 refine rg 0 ?_
 obtain ⟨x1, hx1, hj1⟩ := ob hj1
 refine idx_of (l := p0) (f := encTy) (cs := [.i ((x1).kind), .str ((x1).name), sTy ((x1).kids)]) hx1 (encTy_eq x1) rfl ?_
 refine cp (typing_isTrue_ok 0 x1 _ rfl) okF_214 (.cons (.same _) .nil) ?_
 obtain ⟨x2, hx2, hj1⟩ := ob hj1
 refine idx_of (l := p0) (f := encTy) (cs := [.i ((x2).kind), .str ((x2).name), sTy ((x2).kids)]) hx2 (encTy_eq x2) rfl ?_
 refine onB_cond hj1 (fun hc1 hj1 => ?_) (fun hc1 hj1 => ?_)
 ·obtain ⟨x3, hx3, hj1⟩ := ob hj1
  refine call_pur (typing_alike_ok _ _ _ hx3) okF_202 (.cons (.same _) .nil) (fun g => by simp) (fun g => rfl) ?_
  refine ⟨rfl, ?_⟩
  cases hj1
  exact hR1 _ _ (li (.u2 (.u (.s (.s (.u8 (.u4 (.u2 .n))))))))
 ·refine ⟨rfl, ?_⟩
  cases hj1
  exact hR1 _ _ (li (.u2 (.u (.s (.s (.u8 (.u4 (.u2 .n))))))))
theorem typing_pairOf_ok (n : Nat) (p0 : Ty) (p1 : Ty) (r : Ty) (h : typing_pairOf n p0 p1 = some r) : ACalls Tryz.prog 219 [aTy p0, aTy p1] [] (aTy r) [] := by
 unfold typing_pairOf at h
 refine acalls_start true Tryz.func219 rfl (nt Tryz.ntmps219 rfl) fun Q hQ t ht => ?_
 conv at ht => whnf
 subst ht
 refine .q fun K1 k1 => rg 3 ?_
 refine k1 _ _ ?_
 refine .q fun K2 k2 => rg 1 ?_
 refine ⟨List.map encTy ([p0, p1]), by simp only [List.map_cons, List.map_nil, encTy_eq]; rfl, ?_⟩
 refine k2 _ _ ?_
 refine .ret ?_
 have e9 := sj h
 subst e9
 refine hQ _ _ _ (retPure τ_ok (fun g => by simp) ?_)
 conv => whnf
 try rfl
end Abs
end Go.Proofs.YtiiaccpcoclklaaGreat
