/-
  Plain functions and the contracts of Go functions by them (printed by gen.py). Conditions: none.
-/
import Derived.KernelRfl
import Derived.Test.YtiiaccpcoclklaaGreatCAbs38xf390fb
import Derived.Test.YtiiaccpcoclklaaGreatCDfxb0d24e
import Derived.Test.YtiiaccpcoclklaaGreatCDgx37bbb7
import Derived.Test.YtiiaccpcoclklaaGreatCT3x154ffd
import Derived.Test.YtiiaccpcoclklaaGreatCNilx02d347
set_option linter.unusedSimpArgs false
set_option linter.unusedVariables false
namespace Go.Proofs.YtiiaccpcoclklaaGreat
namespace Abs
open Go Go.Proofs
set_option maxRecDepth 100000
set_option maxHeartbeats 40000000
theorem typing_Carriers_ok (n : Nat) (p0 : Ty) (r : List Str) (h : typing_Carriers n p0 = some r) : ACalls Tryz.prog 45 [aTy p0] [] (sSt r) [] := by
 unfold typing_Carriers at h
 refine acalls_start true Tryz.func45 rfl (nt Tryz.ntmps45 rfl) fun Q hQ t ht => ?_
 conv at ht => whnf
 subst ht
 refine .q fun K1 k1 => rg 1 ?_
 refine k1 _ _ ?_
 refine .q fun K2 k2 => .q fun K3 k3 => rg 0 ?_
 obtain ⟨x1, hx1, h⟩ := ob h
 refine call_pur (term_ValidType_ok _ _ _ hx1) okF_92 (.cons (.same _) .nil) (fun g => by simp) (fun g => rfl) ?_
 refine k3 _ _ ?_
 refine .condS rfl h (fun hc1 h => ?_) (fun hc1 h => ?_)
 ·refine .q fun K4 k4 => rg 0 ?_
  refine k4 _ _ ?_
  refine .ret ?_
  have e9 := sj h
  subst e9
  refine hQ _ _ _ (retPure τ_ok (fun g => by simp) ?_)
  conv => whnf
  try rfl
 ·refine .skip ?_
  refine k2 _ _ ?_
  refine .q fun K5 k5 => rg 1 ?_
  refine k5 _ _ ?_
  refine .q fun K6 k6 => rg 0 ?_
  obtain ⟨x2, hx2, h⟩ := ob h
  refine call_gen [1] [] [aTy p0, .mapr 0] [aTy p0, .mapr 1] (typing_collect_ok _ _ _ _ hx2) okF_103 rfl (.cons (congrArg AObj.mp (renm (f := (fun (x : Bool) => .bool x)) (fun g x => rfl) _ _)) .nil) (by simp; try decide) (.cons (.same _) (.cons (.same _) .nil)) (rn := .tup []) (rfl) (Hn := [.mp (mBo x2)]) ((rcons (congrArg AObj.mp (renm (f := (fun (x : Bool) => .bool x)) (fun g x => rfl) _ _)) rfl)) ?_
  refine k6 _ _ ?_
  refine .q fun K7 k7 => rg 1 ?_
  refine call_gen [1] [2] [.mapr 0] [.mapr 1] (maps_Keys_bool_ok 0 x2 _ rfl) okF_105 rfl (.cons (congrArg AObj.mp (renm (f := (fun (x : Bool) => .bool x)) (fun g x => rfl) _ _)) .nil) (by simp; try decide) (.cons (.same _) .nil) (rn := .func 185 [.ptr 2 0]) (by simp; try decide) (Hn := [.mp (mBo x2), .box [.mapr 1]]) ((rcons (congrArg AObj.mp (renm (f := (fun (x : Bool) => .bool x)) (fun g x => rfl) _ _)) (rcons rfl rfl))) ?_
  obtain ⟨x3, hx3, h⟩ := ob h
  refine call_gen [1, 2] [] [.func 185 [.ptr 1 0]] [.func 185 [.ptr 2 0]] (slices_Sorted_string_ok _ _ _ hx3) okF_104 rfl (.cons (congrArg AObj.mp (renm (f := (fun (x : Bool) => .bool x)) (fun g x => rfl) _ _)) (.cons rfl .nil)) (by simp; try decide) (.cons (.same _) .nil) (rn := sSt x3) (by simp; try decide) (Hn := [.mp (mBo x2), .box [.mapr 1]]) ((rcons (congrArg AObj.mp (renm (f := (fun (x : Bool) => .bool x)) (fun g x => rfl) _ _)) (rcons rfl rfl))) ?_
  refine k7 _ _ ?_
  refine .ret ?_
  have e9 := sj h
  subst e9
  refine hQ _ _ _ (retPure τ_ok (fun g => by simp) ?_)
  conv => whnf
  try rfl
theorem typing_hasCarrier_1_ok (n : Nat) (p0 : Carrier) (p1 : Str) (r : Bool) (h : typing_hasCarrier_1 n p0 p1 = some r) : ACalls Tryz.prog 248 [.agg [.str p0.name, sSt p0.elems], .ptr 0 0] [.box [.str p1]] (.bool r) [.box [.str p1]] := by
 unfold typing_hasCarrier_1 at h
 refine acalls_start true Tryz.func248 rfl (nt Tryz.ntmps248 rfl) fun Q hQ t ht => ?_
 conv at ht => whnf
 subst ht
 refine .q fun K1 k1 => rg 1 ?_
 refine k1 _ _ ?_
 refine .q fun K2 k2 => rg 0 ?_
 refine k2 _ _ ?_
 refine .ret ?_
 have e9 := sj h
 subst e9
 refine hQ _ _ _ (retW (u2 (.unk :: (.bool (p0.name == p1) :: (u4 [])))) [.box [.str p1]] (wk [some 0] (.u2 (.u (.c rfl (.u4 .nil)))) (.b rfl (.c rfl .nil) .nil) rfl) (retObj τ_ok [0] rfl (.cons (rfl) .nil) ?_))
 conv => whnf
 first | rfl | (simp; done) | (simp; rfl) | (simp; constructor <;> rfl)
theorem slices_IndexFunc_Carrier_ok (n : Nat) (p0 : List Carrier) (p1 : Str) (r : Int) (h : slices_IndexFunc_Carrier n p0 p1 = some r) : ACalls Tryz.prog 123 [sCa p0, .func 248 [.ptr 0 0]] [.box [.str p1]] (.i r) [.box [.str p1]] := by
 unfold slices_IndexFunc_Carrier at h
 refine acalls_start true Tryz.func123 rfl (nt Tryz.ntmps123 rfl) fun Q hQ t ht => ?_
 conv at ht => whnf
 subst ht
 refine .q fun K1 k1 => rg 0 ?_
 refine k1 _ _ ?_
 refine .q fun K2 k2 => .q fun K3 k3 => rg 0 ?_
 refine len_of (l := p0) (f := encCarrier) ?_
 refine k3 _ _ ?_
 refine .block ?_
 obtain ⟨o1, ho1, h⟩ := ob h
 have hR1 : ∀ s2 : Unit, o1 = .nx s2 → ∀ t9 h9, Le 1 t9 h9 (u16 (u2 (.unk :: []))) [.box [.str p1]] → K2 t9 h9 := by
  intro s2 ho
  subst ho
  dsimp only [LR.el] at h
  intro t9 h9 hw
  refine k2 _ _ (AW.le hw ?_)
  refine .q fun K4 k4 => rg 0 ?_
  refine k4 _ _ ?_
  refine .ret ?_
  have e9 := sj h
  subst e9
  refine hQ _ _ _ (retW (u4 (.i (-1) :: (u8 (u4 (u2 []))))) [.box [.str p1]] (wk [some 0] (.u4 (.c rfl (.u8 (.u4 (.u2 .nil))))) (.b rfl (.c rfl .nil) .nil) rfl) (retObj τ_ok [0] rfl (.cons (rfl) .nil) ?_))
  conv => whnf
  first | rfl | (simp; done) | (simp; rfl) | (simp; constructor <;> rfl)
 refine .loopS (slices_IndexFunc_Carrier_L0 n p0 p1) (fun (s1 : Int) => (sCa p0 :: (.func 248 [.ptr 0 0] :: (u4 (.unk :: (.i (p0.length : Int) :: (.i s1 :: (u8 (u2 []))))))))) (fun (s1 : Int) => [.box [.str p1]]) ho1 (fun _ => rfl) (li (.s (.s (.u4 (.u (.s (.s (.u8 (.u2 .n))))))))) ?_
 intro n1 s1 hs1 KL1 hKL1
 unfold slices_IndexFunc_Carrier_L0 at hs1
 refine .q fun K5 k5 => rg 0 ?_
 refine k5 _ _ ?_
 refine .q fun K6 k6 => ?_
 refine .condS rfl hs1 (fun hc1 hs1 => ?_) (fun hc1 hs1 => ?_)
 ·refine .skip ?_
  refine k6 _ _ ?_
  refine .q fun K7 k7 => ?_
  refine .block ?_
  refine .q fun K8 k8 => rg 0 ?_
  refine k8 _ _ ?_
  refine .q fun K9 k9 => rg 0 ?_
  obtain ⟨x1, hx1, hs1⟩ := ob hs1
  refine idx_of (l := p0) (f := encCarrier) (cs := [.str ((x1).name), sSt ((x1).elems)]) hx1 (rfl) rfl ?_
  refine call_gen [0] [] [.agg [.str x1.name, sSt x1.elems], .ptr 0 0] [.agg [.str x1.name, sSt x1.elems], .ptr 0 0] (typing_hasCarrier_1_ok 0 x1 p1 _ rfl) okF_248 rfl (.cons (rfl) .nil) (by simp; try decide) (.cons (.same _) (.cons (.same _) .nil)) (rn := .bool (x1.name == p1)) (rfl) (Hn := [.box [.str p1]]) ((rcons (rfl) rfl)) ?_
  refine k9 _ _ ?_
  refine .condS rfl hs1 (fun hc2 hs1 => ?_) (fun hc2 hs1 => ?_)
  ·refine .q fun K10 k10 => rg 0 ?_
   refine k10 _ _ ?_
   refine .ret ?_
   have e9 := sj hs1
   subst e9
   dsimp only [LR.el] at h
   have e9 := sj h
   subst e9
   refine hQ _ _ _ (retW (u4 (.i s1 :: (u8 (u4 (u2 []))))) [.box [.str p1]] (wk [some 0] (.u4 (.c rfl (.u8 (.u4 (.u2 .nil))))) (.b rfl (.c rfl .nil) .nil) rfl) (retObj τ_ok [0] rfl (.cons (rfl) .nil) ?_))
   conv => whnf
   first | rfl | (simp; done) | (simp; rfl) | (simp; constructor <;> rfl)
  ·refine .skip ?_
   refine k7 _ _ ?_
   refine .know 5 0 fun hv1 => ?_
   refine .know 0 0 fun hv2 => ?_
   refine rg 0 ?_
   refine ⟨(s1 + 1), by have := wf64 hv1; have := vfl hv2; have h8 := of_decide_eq_true hc1; exact w64_id (by omega) (by omega), ?_⟩
   exact hKL1 _ _ _ hs1 (li (.s (.s (.u4 (.u (.s (.s (.u8 (.u2 .n)))))))))
 ·refine .exit ?_
  exact hR1 _ (sj hs1).symm _ _ (li (.u16 (.u2 (.u .n))))
theorem slices_ContainsFunc_Carrier_ok (n : Nat) (p0 : List Carrier) (p1 : Str) (r : Bool) (h : slices_ContainsFunc_Carrier n p0 p1 = some r) : ACalls Tryz.prog 247 [sCa p0, .func 248 [.ptr 0 0]] [.box [.str p1]] (.bool r) [.box [.str p1]] := by
 unfold slices_ContainsFunc_Carrier at h
 refine acalls_start true Tryz.func247 rfl (nt Tryz.ntmps247 rfl) fun Q hQ t ht => ?_
 conv at ht => whnf
 subst ht
 refine .q fun K1 k1 => rg 0 ?_
 refine k1 _ _ ?_
 refine .q fun K2 k2 => rg 0 ?_
 obtain ⟨x1, hx1, h⟩ := ob h
 refine call_gen [0] [] [sCa p0, .func 248 [.ptr 0 0]] [sCa p0, .func 248 [.ptr 0 0]] (slices_IndexFunc_Carrier_ok _ _ _ _ hx1) okF_123 rfl (.cons (rfl) .nil) (by simp; try decide) (.cons (.same _) (.cons (.same _) .nil)) (rn := .i x1) (rfl) (Hn := [.box [.str p1]]) ((rcons (rfl) rfl)) ?_
 refine k2 _ _ ?_
 refine .ret ?_
 have e9 := sj h
 subst e9
 refine hQ _ _ _ (retW (u4 (.bool (decide (0 ≤ x1)) :: (u4 []))) [.box [.str p1]] (wk [some 0] (.u4 (.c rfl (.u4 .nil))) (.b rfl (.c rfl .nil) .nil) rfl) (retObj τ_ok [0] rfl (.cons (rfl) .nil) ?_))
 conv => whnf
 first | rfl | (simp; done) | (simp; rfl) | (simp; constructor <;> rfl)
theorem typing_hasCarrier_ok (n : Nat) (p0 : Env) (p1 : Str) (r : Bool) (h : typing_hasCarrier n p0 p1 = some r) : ACalls Tryz.prog 182 [aEnv p0, .str p1] [] (.bool r) [] := by
 unfold typing_hasCarrier at h
 refine acalls_start true Tryz.func182 rfl (nt Tryz.ntmps182 rfl) fun Q hQ t ht => ?_
 conv at ht => whnf
 subst ht
 refine .q fun K1 k1 => rg 2 ?_
 refine k1 _ _ ?_
 refine .q fun K2 k2 => rg 0 ?_
 obtain ⟨x1, hx1, h⟩ := ob h
 refine call_gen [1] [] [sCa p0.carriers, .func 248 [.ptr 0 0]] [sCa p0.carriers, .func 248 [.ptr 1 0]] (slices_ContainsFunc_Carrier_ok _ _ _ _ hx1) okF_247 rfl (.cons (rfl) .nil) (by simp; try decide) (.cons (.same _) (.cons (.same _) .nil)) (rn := .bool x1) (rfl) (Hn := [.box [.str p1]]) ((rcons (rfl) rfl)) ?_
 refine k2 _ _ ?_
 refine .ret ?_
 have e9 := sj h
 subst e9
 refine hQ _ _ _ (retPure τ_ok (fun g => rfl) ?_)
 conv => whnf
theorem typing_mentions_1_ok (n : Nat) (p0 : Str) (p1 : List Carrier) (p2 : List Decl) (r : Bool) (h : typing_mentions_1 n p0 p1 p2 = some r) : ACalls Tryz.prog 181 [.str p0, .ptr 0 0] [.box [sCa p1, sDe p2]] (.bool r) [.box [sCa p1, sDe p2]] := by
 unfold typing_mentions_1 at h
 refine acalls_start true Tryz.func181 rfl (nt Tryz.ntmps181 rfl) fun Q hQ t ht => ?_
 conv at ht => whnf
 subst ht
 refine .q fun K1 k1 => rg 0 ?_
 refine k1 _ _ ?_
 refine .q fun K2 k2 => rg 0 ?_
 obtain ⟨x1, hx1, h⟩ := ob h
 refine call_pur (typing_hasCarrier_ok _ _ _ _ hx1) okF_182 (.cons (.same _) (.cons (.same _) .nil)) (fun g => by simp) (fun g => rfl) ?_
 refine k2 _ _ ?_
 refine .ret ?_
 have e9 := sj h
 subst e9
 refine hQ _ _ _ (retW (u2 (.unk :: (.bool (!x1) :: (u4 [])))) [.box [sCa p1, sDe p2]] (wk [some 0] (.u2 (.u (.c rfl (.u4 .nil)))) (.b rfl (.e renl_Carrier (.e renl_Decl .nil)) .nil) rfl) (retObj τ_ok [0] rfl (.cons (by simp only [renO, ren, renL, renLL, renT, renL_app, renl_I, renl_S, renl_U8, renl_Ty, renl_Tm, renl_Carrier, renl_Decl, rowC0_ren]; try rfl) .nil) ?_))
 conv => whnf
 first | rfl | (simp; done) | (simp; rfl) | (simp; constructor <;> rfl)
theorem slices_IndexFunc_string_ok (n : Nat) (p0 : List Str) (p1 : List Carrier) (p2 : List Decl) (r : Int) (h : slices_IndexFunc_string n p0 p1 p2 = some r) : ACalls Tryz.prog 246 [sSt p0, .func 181 [.ptr 0 0]] [.box [sCa p1, sDe p2]] (.i r) [.box [sCa p1, sDe p2]] := by
 unfold slices_IndexFunc_string at h
 refine acalls_start true Tryz.func246 rfl (nt Tryz.ntmps246 rfl) fun Q hQ t ht => ?_
 conv at ht => whnf
 subst ht
 refine .q fun K1 k1 => rg 0 ?_
 refine k1 _ _ ?_
 refine .q fun K2 k2 => .q fun K3 k3 => rg 0 ?_
 refine len_of (l := p0) (f := encS) ?_
 refine k3 _ _ ?_
 refine .block ?_
 obtain ⟨o1, ho1, h⟩ := ob h
 have hR1 : ∀ s2 : Unit, o1 = .nx s2 → ∀ t9 h9, Le 1 t9 h9 (u16 (u2 (.unk :: []))) [.box [sCa p1, sDe p2]] → K2 t9 h9 := by
  intro s2 ho
  subst ho
  dsimp only [LR.el] at h
  intro t9 h9 hw
  refine k2 _ _ (AW.le hw ?_)
  refine .q fun K4 k4 => rg 0 ?_
  refine k4 _ _ ?_
  refine .ret ?_
  have e9 := sj h
  subst e9
  refine hQ _ _ _ (retW (u4 (.i (-1) :: (u8 (u4 (u2 []))))) [.box [sCa p1, sDe p2]] (wk [some 0] (.u4 (.c rfl (.u8 (.u4 (.u2 .nil))))) (.b rfl (.e renl_Carrier (.e renl_Decl .nil)) .nil) rfl) (retObj τ_ok [0] rfl (.cons (by simp only [renO, ren, renL, renLL, renT, renL_app, renl_I, renl_S, renl_U8, renl_Ty, renl_Tm, renl_Carrier, renl_Decl, rowC0_ren]; try rfl) .nil) ?_))
  conv => whnf
  first | rfl | (simp; done) | (simp; rfl) | (simp; constructor <;> rfl)
 refine .loopS (slices_IndexFunc_string_L0 n p0 p1 p2) (fun (s1 : Int) => (sSt p0 :: (.func 181 [.ptr 0 0] :: (u4 (.unk :: (.i (p0.length : Int) :: (.i s1 :: (u8 (u2 []))))))))) (fun (s1 : Int) => [.box [sCa p1, sDe p2]]) ho1 (fun _ => rfl) (li (.s (.s (.u4 (.u (.s (.s (.u8 (.u2 .n))))))))) ?_
 intro n1 s1 hs1 KL1 hKL1
 unfold slices_IndexFunc_string_L0 at hs1
 refine .q fun K5 k5 => rg 0 ?_
 refine k5 _ _ ?_
 refine .q fun K6 k6 => ?_
 refine .condS rfl hs1 (fun hc1 hs1 => ?_) (fun hc1 hs1 => ?_)
 ·refine .skip ?_
  refine k6 _ _ ?_
  refine .q fun K7 k7 => ?_
  refine .block ?_
  refine .q fun K8 k8 => rg 0 ?_
  refine k8 _ _ ?_
  refine .q fun K9 k9 => rg 0 ?_
  obtain ⟨x1, hx1, hs1⟩ := ob hs1
  refine idx_of (l := p0) (f := encS) (cs := [.str (x1)]) hx1 (rfl) rfl ?_
  obtain ⟨x2, hx2, hs1⟩ := ob hs1
  refine call_gen [0] [] [.str x1, .ptr 0 0] [.str x1, .ptr 0 0] (typing_mentions_1_ok _ _ _ _ _ hx2) okF_181 rfl (.cons (by simp only [renO, ren, renL, renLL, renT, renL_app, renl_I, renl_S, renl_U8, renl_Ty, renl_Tm, renl_Carrier, renl_Decl, rowC0_ren]; try rfl) .nil) (rfl) (.cons (.same _) (.cons (.same _) .nil)) (rn := .bool x2) (rfl) (Hn := [.box [sCa p1, sDe p2]]) ((rcons (by simp only [renO, ren, renL, renLL, renT, renL_app, renl_I, renl_S, renl_U8, renl_Ty, renl_Tm, renl_Carrier, renl_Decl, rowC0_ren]; try rfl) rfl)) ?_
  refine k9 _ _ ?_
  refine .condS rfl hs1 (fun hc2 hs1 => ?_) (fun hc2 hs1 => ?_)
  ·refine .q fun K10 k10 => rg 0 ?_
   refine k10 _ _ ?_
   refine .ret ?_
   have e9 := sj hs1
   subst e9
   dsimp only [LR.el] at h
   have e9 := sj h
   subst e9
   refine hQ _ _ _ (retW (u4 (.i s1 :: (u8 (u4 (u2 []))))) [.box [sCa p1, sDe p2]] (wk [some 0] (.u4 (.c rfl (.u8 (.u4 (.u2 .nil))))) (.b rfl (.e renl_Carrier (.e renl_Decl .nil)) .nil) rfl) (retObj τ_ok [0] rfl (.cons (by simp only [renO, ren, renL, renLL, renT, renL_app, renl_I, renl_S, renl_U8, renl_Ty, renl_Tm, renl_Carrier, renl_Decl, rowC0_ren]; try rfl) .nil) ?_))
   conv => whnf
   first | rfl | (simp; done) | (simp; rfl) | (simp; constructor <;> rfl)
  ·refine .skip ?_
   refine k7 _ _ ?_
   refine .know 5 0 fun hv1 => ?_
   refine .know 0 0 fun hv2 => ?_
   refine rg 0 ?_
   refine ⟨(s1 + 1), by have := wf64 hv1; have := vfl hv2; have h8 := of_decide_eq_true hc1; exact w64_id (by omega) (by omega), ?_⟩
   exact hKL1 _ _ _ hs1 (li (.s (.s (.u4 (.u (.s (.s (.u8 (.u2 .n)))))))))
 ·refine .exit ?_
  exact hR1 _ (sj hs1).symm _ _ (li (.u16 (.u2 (.u .n))))
theorem slices_ContainsFunc_string_ok (n : Nat) (p0 : List Str) (p1 : List Carrier) (p2 : List Decl) (r : Bool) (h : slices_ContainsFunc_string n p0 p1 p2 = some r) : ACalls Tryz.prog 180 [sSt p0, .func 181 [.ptr 0 0]] [.box [sCa p1, sDe p2]] (.bool r) [.box [sCa p1, sDe p2]] := by
 unfold slices_ContainsFunc_string at h
 refine acalls_start true Tryz.func180 rfl (nt Tryz.ntmps180 rfl) fun Q hQ t ht => ?_
 conv at ht => whnf
 subst ht
 refine .q fun K1 k1 => rg 0 ?_
 refine k1 _ _ ?_
 refine .q fun K2 k2 => rg 0 ?_
 obtain ⟨x1, hx1, h⟩ := ob h
 refine call_gen [0] [] [sSt p0, .func 181 [.ptr 0 0]] [sSt p0, .func 181 [.ptr 0 0]] (slices_IndexFunc_string_ok _ _ _ _ _ hx1) okF_246 rfl (.cons (by simp only [renO, ren, renL, renLL, renT, renL_app, renl_I, renl_S, renl_U8, renl_Ty, renl_Tm, renl_Carrier, renl_Decl, rowC0_ren]; try rfl) .nil) (by simp; try decide) (.cons (.same _) (.cons (.same _) .nil)) (rn := .i x1) (rfl) (Hn := [.box [sCa p1, sDe p2]]) ((rcons (by simp only [renO, ren, renL, renLL, renT, renL_app, renl_I, renl_S, renl_U8, renl_Ty, renl_Tm, renl_Carrier, renl_Decl, rowC0_ren]; try rfl) rfl)) ?_
 refine k2 _ _ ?_
 refine .ret ?_
 have e9 := sj h
 subst e9
 refine hQ _ _ _ (retW (u4 (.bool (decide (0 ≤ x1)) :: (u4 []))) [.box [sCa p1, sDe p2]] (wk [some 0] (.u4 (.c rfl (.u4 .nil))) (.b rfl (.e renl_Carrier (.e renl_Decl .nil)) .nil) rfl) (retObj τ_ok [0] rfl (.cons (by simp only [renO, ren, renL, renLL, renT, renL_app, renl_I, renl_S, renl_U8, renl_Ty, renl_Tm, renl_Carrier, renl_Decl, rowC0_ren]; try rfl) .nil) ?_))
 conv => whnf
 first | rfl | (simp; done) | (simp; rfl) | (simp; constructor <;> rfl)
theorem typing_mentions_ok (n : Nat) (p0 : Env) (p1 : Ty) (r : Bool) (h : typing_mentions n p0 p1 = some r) : ACalls Tryz.prog 97 [aEnv p0, aTy p1] [] (.bool r) [] := by
 unfold typing_mentions at h
 refine acalls_start true Tryz.func97 rfl (nt Tryz.ntmps97 rfl) fun Q hQ t ht => ?_
 conv at ht => whnf
 subst ht
 refine .q fun K1 k1 => rg 2 ?_
 refine k1 _ _ ?_
 refine .q fun K2 k2 => rg 0 ?_
 obtain ⟨x1, hx1, h⟩ := ob h
 refine cp (typing_Carriers_ok _ _ _ hx1) okF_45 (.cons (.same _) .nil) ?_
 obtain ⟨x2, hx2, h⟩ := ob h
 refine call_gen [0] [] [sSt x1, .func 181 [.ptr 0 0]] [sSt x1, .func 181 [.ptr 0 0]] (slices_ContainsFunc_string_ok _ _ _ _ _ hx2) okF_180 rfl (.cons (by simp only [renO, ren, renL, renLL, renT, renL_app, renl_I, renl_S, renl_U8, renl_Ty, renl_Tm, renl_Carrier, renl_Decl, rowC0_ren]; try rfl) .nil) (by simp; try decide) (.cons (.same _) (.cons (.same _) .nil)) (rn := .bool x2) (rfl) (Hn := [.box [sCa p0.carriers, sDe p0.names]]) ((rcons (by simp only [renO, ren, renL, renLL, renT, renL_app, renl_I, renl_S, renl_U8, renl_Ty, renl_Tm, renl_Carrier, renl_Decl, rowC0_ren]; try rfl) rfl)) ?_
 refine k2 _ _ ?_
 refine .ret ?_
 have e9 := sj h
 subst e9
 refine hQ _ _ _ (retPure τ_ok (fun g => rfl) ?_)
 conv => whnf
theorem typing_declared_ok (n : Nat) (p0 : Env) (r : List Str) (h : typing_declared n p0 = some r) : ACalls Tryz.prog 114 [aEnv p0] [] (.slice (List.map encS r) (.tip 0 1)) [.tip (List.length r * 1)] := by
 unfold typing_declared at h
 refine acalls_start false Tryz.func114 rfl (nt Tryz.ntmps114 rfl) fun Q hQ t ht => ?_
 conv at ht => whnf
 subst ht
 refine .q fun K1 k1 => rg 1 ?_
 refine k1 _ _ ?_
 refine .q fun K2 k2 => rg 0 ?_
 refine k2 _ _ ?_
 refine .q fun K3 k3 => .q fun K4 k4 => rg 0 ?_
 refine len_of (l := p0.carriers) (f := encCarrier) ?_
 refine k4 _ _ ?_
 refine .block ?_
 obtain ⟨o1, ho1, h⟩ := ob h
 have hR1 : ∀ s2 : List Str, o1 = .nx s2 → ∀ t9 h9, Le 0 t9 h9 (.unk :: (.ptr 0 0 :: (.unk :: (.slice (List.map encS s2) (.tip 1 1) :: (u32 (u2 [])))))) [.box [sCa p0.carriers, sDe p0.names], .tip (List.length s2 * 1)] → K3 t9 h9 := by
  intro s2 ho
  subst ho
  dsimp only [LR.el] at h
  intro t9 h9 hw
  refine k3 _ _ (AW.le hw ?_)
  refine .q fun K5 k5 => .q fun K6 k6 => rg 0 ?_
  refine len_of (l := p0.names) (f := encDecl) ?_
  refine k6 _ _ ?_
  refine .block ?_
  obtain ⟨o2, ho2, h⟩ := ob h
  have hR2 : ∀ s4 : List Str, o2 = .nx s4 → ∀ t9 h9, Le 0 t9 h9 (u2 (.unk :: (.slice (List.map encS s4) (.tip 0 1) :: (u32 (u2 []))))) [.tip (List.length s4 * 1)] → K5 t9 h9 := by
   intro s4 ho
   subst ho
   dsimp only [LR.el] at h
   intro t9 h9 hw
   refine k5 _ _ (AW.le hw ?_)
   refine .q fun K7 k7 => rg 0 ?_
   refine k7 _ _ ?_
   refine .ret ?_
   have e9 := sj h
   subst e9
   refine hQ _ _ _ (retW (u2 (.slice (List.map encS s4) (.tip 0 1) :: (u32 (u2 (.unk :: []))))) [.tip (List.length s4 * 1)] (wk [some 0] (.u2 (.cons (.tipS (renl_S _ _) rfl) (.u32 (.u2 (.u .nil))))) (.t rfl .nil) rfl) (retObj τ_ok [0] rfl (.cons (rfl) .nil) ?_))
   conv => whnf
   first | rfl | (simp; done) | (simp; rfl) | (simp; constructor <;> rfl)
  refine .loopS (typing_declared_L0 n p0) (fun (s3 : (List Str) × Int) => (u2 (.unk :: (.slice (List.map encS s3.1) (.tip 0 1) :: (u16 (u4 (.unk :: (sDe p0.names :: (.i (p0.names.length : Int) :: (.i s3.2 :: (u8 (u2 [])))))))))))) (fun (s3 : (List Str) × Int) => [.tip (List.length s3.1 * 1)]) ho2 (fun _ => rfl) (wk [some 1] (.u2 (.u (.cons (.tipS (renl_S _ _) rfl) (.u16 (.u4 (.u (.e renl_Decl (.c rfl (.c rfl (.u8 (.u2 .nil))))))))))) (.t rfl .nil) rfl) ?_
  intro n2 s3 hs2 KL2 hKL2
  unfold typing_declared_L0 at hs2
  refine .q fun K8 k8 => rg 0 ?_
  refine k8 _ _ ?_
  refine .q fun K9 k9 => ?_
  refine .condS rfl hs2 (fun hc1 hs2 => ?_) (fun hc1 hs2 => ?_)
  ·refine .skip ?_
   refine k9 _ _ ?_
   refine .q fun K10 k10 => ?_
   refine .block ?_
   refine .q fun K11 k11 => rg 1 ?_
   obtain ⟨x1, hx1, hs2⟩ := ob hs2
   refine idx_of (l := p0.names) (f := encDecl) (cs := [.str ((x1).name), .i (((x1).ty).kind), .str (((x1).ty).name), sTy (((x1).ty).kids)]) hx1 (rfl) rfl ?_
   refine k11 _ _ ?_
   refine rg 2 ?_
   refine ⟨List.map encS ([x1.name]), rfl, ?_⟩
   obtain ⟨x2, hx2, hs2⟩ := ob hs2
   refine app_tip (l := s3.1) (ys := [x1.name]) (f := encS) hx2 ok_S rfl rfl rfl ?_
   refine k10 _ _ ?_
   refine .know 27 0 fun hv1 => ?_
   refine .know 25 0 fun hv2 => ?_
   refine rg 0 ?_
   refine ⟨(s3.2 + 1), by have := wf64 hv1; have := vfl hv2; have h8 := of_decide_eq_true hc1; exact w64_id (by omega) (by omega), ?_⟩
   exact hKL2 _ _ _ hs2 (wk [some 3] (.u2 (.u (.cons (.tipS (renl_S _ _) rfl) (.u16 (.u4 (.u (.e renl_Decl (.c rfl (.c rfl (.u8 (.u2 .nil))))))))))) (.t rfl .nil) rfl)
  ·refine .exit ?_
   exact hR2 _ (sj hs2).symm _ _ (li (.u2 (.u (.s (.u16 (.u16 (.u2 .n)))))))
 refine .loopS (typing_declared_L1 n p0) (fun (s1 : (List Str) × Int) => (.unk :: (.ptr 0 0 :: (.unk :: (.slice (List.map encS s1.1) (.tip 1 1) :: (u4 (.unk :: (sCa p0.carriers :: (.i (p0.carriers.length : Int) :: (.i s1.2 :: (u16 (u8 (u2 []))))))))))))) (fun (s1 : (List Str) × Int) => [.box [sCa p0.carriers, sDe p0.names], .tip (List.length s1.1 * 1)]) ho1 (fun _ => rfl) (wk [some 0, none] (.u (.c rfl (.u (.cons (.nils _ _) (.u4 (.u (.e renl_Carrier (.c rfl (.c rfl (.u16 (.u8 (.u2 .nil)))))))))))) (.b rfl (.e renl_Carrier (.e renl_Decl .nil)) (.w rfl .nil)) rfl) ?_
 intro n1 s1 hs1 KL1 hKL1
 unfold typing_declared_L1 at hs1
 refine .q fun K12 k12 => rg 0 ?_
 refine k12 _ _ ?_
 refine .q fun K13 k13 => ?_
 refine .condS rfl hs1 (fun hc2 hs1 => ?_) (fun hc2 hs1 => ?_)
 ·refine .skip ?_
  refine k13 _ _ ?_
  refine .q fun K14 k14 => ?_
  refine .block ?_
  refine .q fun K15 k15 => rg 1 ?_
  obtain ⟨x3, hx3, hs1⟩ := ob hs1
  refine idx_of (l := p0.carriers) (f := encCarrier) (cs := [.str ((x3).name), sSt ((x3).elems)]) hx3 (rfl) rfl ?_
  refine k15 _ _ ?_
  refine rg 3 ?_
  refine ⟨List.map encS ([x3.name]), rfl, ?_⟩
  obtain ⟨x4, hx4, hs1⟩ := ob hs1
  refine app_tip (l := s1.1) (ys := [x3.name]) (f := encS) hx4 ok_S rfl rfl rfl ?_
  obtain ⟨x5, hx5, hs1⟩ := ob hs1
  refine app_tip (l := x4) (ys := x3.elems) (f := encS) hx5 ok_S rfl rfl rfl ?_
  refine ⟨rfl, ?_⟩
  refine k14 _ _ ?_
  refine .know 11 0 fun hv3 => ?_
  refine .know 9 0 fun hv4 => ?_
  refine rg 0 ?_
  refine ⟨(s1.2 + 1), by have := wf64 hv3; have := vfl hv4; have h8 := of_decide_eq_true hc2; exact w64_id (by omega) (by omega), ?_⟩
  exact hKL1 _ _ _ hs1 (wk [some 0, some 5] (.u (.c rfl (.u (.cons (.tipS (renl_S _ _) rfl) (.u4 (.u (.e renl_Carrier (.c rfl (.c rfl (.u16 (.u8 (.u2 .nil)))))))))))) (.b rfl (.e renl_Carrier (.e renl_Decl .nil)) (.t rfl .nil)) rfl)
 ·refine .exit ?_
  exact hR1 _ (sj hs1).symm _ _ (li (.u (.s (.u (.s (.u16 (.u16 (.u2 .n))))))))
end Abs
end Go.Proofs.YtiiaccpcoclklaaGreat
