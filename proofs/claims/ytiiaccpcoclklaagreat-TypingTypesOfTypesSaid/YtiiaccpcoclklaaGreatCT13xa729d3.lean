/-
  Plain functions and the contracts of Go functions by them (printed by gen.py). Conditions: none.
-/
import Derived.KernelRfl
import Derived.Test.YtiiaccpcoclklaaGreatCAbs38xf390fb
import Derived.Test.YtiiaccpcoclklaaGreatCDfxb0d24e
import Derived.Test.YtiiaccpcoclklaaGreatCDgx37bbb7
import Derived.Test.YtiiaccpcoclklaaGreatCT6xdfb8a6
import Derived.Test.YtiiaccpcoclklaaGreatCT8x276a20
import Derived.Test.YtiiaccpcoclklaaGreatCT9xb04805
import Derived.Test.YtiiaccpcoclklaaGreatCT11x722f94
import Derived.Test.YtiiaccpcoclklaaGreatCT12x5f027c
set_option linter.unusedSimpArgs false
set_option linter.unusedVariables false
namespace Go.Proofs.YtiiaccpcoclklaaGreat
namespace Abs
open Go Go.Proofs
set_option maxRecDepth 100000
set_option maxHeartbeats 40000000
theorem typing_rows_4_ok (n : Nat) (p0 : Ty) (p1 : Ty) (p2 : List Ty) (r : Ty × Bool) (h : typing_rows_4 n p0 p1 p2 = some r) : ACalls Tryz.prog 209 [aTy p0, aTy p1, sTy p2] [] (.tup [aTy r.1, .bool r.2]) [] := by
 unfold typing_rows_4 at h
 refine acalls_start true Tryz.func209 rfl (nt Tryz.ntmps209 rfl) fun Q hQ t ht => ?_
 conv at ht => whnf
 subst ht
 refine .q fun K1 k1 => rg 3 ?_
 refine k1 _ _ ?_
 refine .q fun K2 k2 => rg 1 ?_
 obtain ⟨x1, hx1, h⟩ := ob h
 refine idx_of (l := p2) (f := encTy) (cs := [.i ((x1).kind), .str ((x1).name), sTy ((x1).kids)]) hx1 (encTy_eq x1) rfl ?_
 obtain ⟨x2, hx2, h⟩ := ob h
 refine cp (typing_elementOf_ok _ _ _ hx2) okF_134 (.cons (.same _) .nil) ?_
 refine k2 _ _ ?_
 refine .q fun K3 k3 => ?_
 obtain ⟨s1, hj1, h⟩ := ob h
 have hR1 : ∀ t9 h9, Le 0 t9 h9 (u4 (u2 (.ptr 0 0 :: (.bool s1.1 :: (u16 (u2 [])))))) [.box [.i s1.2.1, .str s1.2.2.1, sTy s1.2.2.2]] → K3 t9 h9 := by
  intro t9 h9 hw
  refine k3 _ _ (AW.le hw ?_)
  clear hw
  refine .ret ?_
  have e9 := sj h
  subst e9
  refine hQ _ _ _ (retPure τ_ok (fun g => by simp) ?_)
  conv => whnf
  try rfl
 refine rg 0 ?_
 obtain ⟨x3, hx3, hj1⟩ := ob hj1
 refine idx_of (l := p2) (f := encTy) (cs := [.i ((x3).kind), .str ((x3).name), sTy ((x3).kids)]) hx3 (encTy_eq x3) rfl ?_
 refine onB_cond hj1 (fun hc1 hj1 => ?_) (fun hc1 hj1 => ?_)
 ·obtain ⟨x4, hx4, hj1⟩ := ob hj1
  refine call_pur (typing_equal_ok _ _ _ _ hx4) okF_93 (.cons (.same _) (.cons (.same _) .nil)) (fun g => by simp) (fun g => rfl) ?_
  refine ⟨rfl, ?_⟩
  cases hj1
  exact hR1 _ _ (wk [some 2] (.u4 (.u2 (.c rfl (.c rfl (.u16 (.u2 .nil)))))) (.b rfl (.c rfl (.c rfl (.e renl_Ty .nil))) .nil) rfl)
 ·refine ⟨rfl, ?_⟩
  cases hj1
  exact hR1 _ _ (wk [some 2] (.u4 (.u2 (.c rfl (.c rfl (.u16 (.u2 .nil)))))) (.b rfl (.c rfl (.c rfl (.e renl_Ty .nil))) .nil) rfl)
theorem typing_onRelation_1_3_ok (n : Nat) (p0 : List Ty) (r : Ty × Bool) (h : typing_onRelation_1_3 n p0 = some r) : ACalls Tryz.prog 263 [sTy p0, .eptr [.func 209 []]] [] (.tup [aTy r.1, .bool r.2]) [] := by
 unfold typing_onRelation_1_3 at h
 refine acalls_start true Tryz.func263 rfl (nt Tryz.ntmps263 rfl) fun Q hQ t ht => ?_
 conv at ht => whnf
 subst ht
 refine .q fun K1 k1 => rg 1 ?_
 refine k1 _ _ ?_
 refine .q fun K2 k2 => rg 2 ?_
 obtain ⟨x1, hx1, h⟩ := ob h
 refine idx_of (l := p0) (f := encTy) (cs := [.i ((x1).kind), .str ((x1).name), sTy ((x1).kids)]) hx1 (encTy_eq x1) rfl ?_
 obtain ⟨x2, hx2, h⟩ := ob h
 refine cp (typing_sides_ok _ _ _ hx2) okF_207 (.cons (.same _) .nil) ?_
 refine k2 _ _ ?_
 refine .q fun K3 k3 => .q fun K4 k4 => rg 0 ?_
 refine k4 _ _ ?_
 refine .condS rfl h (fun hc1 h => ?_) (fun hc1 h => ?_)
 ·refine .q fun K5 k5 => rg 0 ?_
  refine k5 _ _ ?_
  refine .ret ?_
  have e9 := sj h
  subst e9
  refine hQ _ _ _ (retPure τ_ok (fun g => by simp) ?_)
  conv => whnf
  try rfl
 ·refine .skip ?_
  refine k3 _ _ ?_
  refine .q fun K6 k6 => rg 0 ?_
  obtain ⟨x3, hx3, h⟩ := ob h
  refine cp (typing_rows_4_ok _ _ _ _ _ hx3) okF_209 (.cons (.same _) (.cons (.same _) (.cons (.same _) .nil))) ?_
  refine k6 _ _ ?_
  refine .ret ?_
  have e9 := sj h
  subst e9
  refine hQ _ _ _ (retPure τ_ok (fun g => by simp) ?_)
  conv => whnf
  try rfl
theorem typing_rows_2_ok (n : Nat) (p0 : Ty) (p1 : Ty) (r : Ty) (h : typing_rows_2 n p0 p1 = some r) : ACalls Tryz.prog 204 [aTy p0, aTy p1] [] (aTy r) [] := by
 unfold typing_rows_2 at h
 refine acalls_start true Tryz.func204 rfl (nt Tryz.ntmps204 rfl) fun Q hQ t ht => ?_
 conv at ht => whnf
 subst ht
 refine .q fun K1 k1 => rg 3 ?_
 refine k1 _ _ ?_
 refine .q fun K2 k2 => rg 0 ?_
 refine cp (typing_relation_ok 0 p0 p1 _ rfl) okF_205 (.cons (.same _) (.cons (.same _) .nil)) ?_
 refine cp (typing_setOf_ok 0 (Ty.mk 5 ([] : Str) ([(Ty.mk 4 ([] : Str) ([p0, p1]))])) _ rfl) okF_138 (.cons (.same _) .nil) ?_
 refine k2 _ _ ?_
 refine .ret ?_
 have e9 := sj h
 subst e9
 refine hQ _ _ _ (retPure τ_ok (fun g => by simp) ?_)
 conv => whnf
 try rfl
theorem typing_two_1_2_ok (n : Nat) (p0 : List Ty) (r : Ty × Bool) (h : typing_two_1_2 n p0 = some r) : ACalls Tryz.prog 262 [sTy p0, .eptr [.func 204 []]] [] (.tup [aTy r.1, .bool r.2]) [] := by
 unfold typing_two_1_2 at h
 refine acalls_start true Tryz.func262 rfl (nt Tryz.ntmps262 rfl) fun Q hQ t ht => ?_
 conv at ht => whnf
 subst ht
 refine .q fun K1 k1 => rg 1 ?_
 refine k1 _ _ ?_
 refine .q fun K2 k2 => rg 1 ?_
 obtain ⟨x1, hx1, h⟩ := ob h
 refine idx_of (l := p0) (f := encTy) (cs := [.i ((x1).kind), .str ((x1).name), sTy ((x1).kids)]) hx1 (encTy_eq x1) rfl ?_
 obtain ⟨x2, hx2, h⟩ := ob h
 refine cp (typing_elementOf_ok _ _ _ hx2) okF_134 (.cons (.same _) .nil) ?_
 refine k2 _ _ ?_
 refine .q fun K3 k3 => rg 1 ?_
 obtain ⟨x3, hx3, h⟩ := ob h
 refine idx_of (l := p0) (f := encTy) (cs := [.i ((x3).kind), .str ((x3).name), sTy ((x3).kids)]) hx3 (encTy_eq x3) rfl ?_
 obtain ⟨x4, hx4, h⟩ := ob h
 refine cp (typing_elementOf_ok _ _ _ hx4) okF_134 (.cons (.same _) .nil) ?_
 refine k3 _ _ ?_
 refine .q fun K4 k4 => .q fun K5 k5 => ?_
 obtain ⟨s1, hj1, h⟩ := ob h
 have hR1 : ∀ t9 h9, Le 0 t9 h9 (.unk :: (.eptr [.func 204 []] :: (.unk :: (.ptr 0 0 :: (.unk :: (.ptr 1 0 :: (.unk :: (.ptr 2 0 :: (u16 (u4 (.bool s1 :: (u4 (.unk :: []))))))))))))) [.box [.i 0, .str ([] : Str), .slice (List.map encTy ([] : List Ty)) .nils], .box [.i x2.1.kind, .str x2.1.name, sTy x2.1.kids], .box [.i x4.1.kind, .str x4.1.name, sTy x4.1.kids]] → K5 t9 h9 := by
  intro t9 h9 hw
  refine k5 _ _ (AW.le hw ?_)
  clear hw
  refine .condS rfl h (fun hc1 h => ?_) (fun hc1 h => ?_)
  ·refine .q fun K6 k6 => rg 0 ?_
   refine k6 _ _ ?_
   refine .ret ?_
   have e9 := sj h
   subst e9
   refine hQ _ _ _ (retPure τ_ok (fun g => by simp) ?_)
   conv => whnf
   try rfl
  ·refine .skip ?_
   refine k4 _ _ ?_
   refine .q fun K7 k7 => rg 0 ?_
   refine cp (typing_rows_2_ok 0 x2.1 x4.1 _ rfl) okF_204 (.cons (.same _) (.cons (.same _) .nil)) ?_
   refine k7 _ _ ?_
   refine .ret ?_
   have e9 := sj h
   subst e9
   refine hQ _ _ _ (retPure τ_ok (fun g => by simp) ?_)
   conv => whnf
   try rfl
 refine rg 0 ?_
 refine onB_cond hj1 (fun hc2 hj1 => ?_) (fun hc2 hj1 => ?_)
 ·cases hj1
  exact hR1 _ _ (li (.u (.s (.u (.s (.u (.s (.u (.s (.u16 (.u4 (.s (.u4 (.u .n))))))))))))))
 ·cases hj1
  exact hR1 _ _ (li (.u (.s (.u (.s (.u (.s (.u (.s (.u16 (.u4 (.s (.u4 (.u .n))))))))))))))
theorem typing_rows_10_ok (n : Nat) (p0 : Ty) (r : Ty × Bool) (h : typing_rows_10 n p0 = some r) : ACalls Tryz.prog 223 [aTy p0] [] (.tup [aTy r.1, .bool r.2]) [] := by
 unfold typing_rows_10 at h
 refine acalls_start true Tryz.func223 rfl (nt Tryz.ntmps223 rfl) fun Q hQ t ht => ?_
 conv at ht => whnf
 subst ht
 refine .q fun K1 k1 => rg 2 ?_
 refine k1 _ _ ?_
 refine .q fun K2 k2 => rg 0 ?_
 refine cp (typing_setOf_ok 0 p0 _ rfl) okF_138 (.cons (.same _) .nil) ?_
 refine cp (typing_setOf_ok 0 (Ty.mk 5 ([] : Str) ([p0])) _ rfl) okF_138 (.cons (.same _) .nil) ?_
 refine k2 _ _ ?_
 refine .ret ?_
 have e9 := sj h
 subst e9
 refine hQ _ _ _ (retPure τ_ok (fun g => by simp) ?_)
 conv => whnf
 try rfl
theorem typing_onSet_1_1_ok (n : Nat) (p0 : List Ty) (r : Ty × Bool) (h : typing_onSet_1_1 n p0 = some r) : ACalls Tryz.prog 264 [sTy p0, .eptr [.func 223 []]] [] (.tup [aTy r.1, .bool r.2]) [] := by
 unfold typing_onSet_1_1 at h
 refine acalls_start true Tryz.func264 rfl (nt Tryz.ntmps264 rfl) fun Q hQ t ht => ?_
 conv at ht => whnf
 subst ht
 refine .q fun K1 k1 => rg 1 ?_
 refine k1 _ _ ?_
 refine .q fun K2 k2 => rg 1 ?_
 obtain ⟨x1, hx1, h⟩ := ob h
 refine idx_of (l := p0) (f := encTy) (cs := [.i ((x1).kind), .str ((x1).name), sTy ((x1).kids)]) hx1 (encTy_eq x1) rfl ?_
 obtain ⟨x2, hx2, h⟩ := ob h
 refine cp (typing_elementOf_ok _ _ _ hx2) okF_134 (.cons (.same _) .nil) ?_
 refine k2 _ _ ?_
 refine .q fun K3 k3 => .q fun K4 k4 => rg 0 ?_
 refine k4 _ _ ?_
 refine .condS rfl h (fun hc1 h => ?_) (fun hc1 h => ?_)
 ·refine .q fun K5 k5 => rg 0 ?_
  refine k5 _ _ ?_
  refine .ret ?_
  have e9 := sj h
  subst e9
  refine hQ _ _ _ (retPure τ_ok (fun g => by simp) ?_)
  conv => whnf
  try rfl
 ·refine .skip ?_
  refine k3 _ _ ?_
  refine .q fun K6 k6 => rg 0 ?_
  refine cp (typing_rows_10_ok 0 x2.1 _ rfl) okF_223 (.cons (.same _) .nil) ?_
  refine k6 _ _ ?_
  refine .ret ?_
  have e9 := sj h
  subst e9
  refine hQ _ _ _ (retPure τ_ok (fun g => by simp) ?_)
  conv => whnf
  try rfl
theorem typing_rows_11_ok (n : Nat) (p0 : Ty) (r : Ty × Bool) (h : typing_rows_11 n p0 = some r) : ACalls Tryz.prog 224 [aTy p0] [] (.tup [aTy r.1, .bool r.2]) [] := by
 unfold typing_rows_11 at h
 refine acalls_start true Tryz.func224 rfl (nt Tryz.ntmps224 rfl) fun Q hQ t ht => ?_
 conv at ht => whnf
 subst ht
 refine .q fun K1 k1 => rg 2 ?_
 refine k1 _ _ ?_
 refine .q fun K2 k2 => rg 0 ?_
 refine call_pur (typing_integer_ok 0 _ rfl) okF_200 .nil (fun g => rfl) (fun g => by simp) ?_
 refine k2 _ _ ?_
 refine .ret ?_
 have e9 := sj h
 subst e9
 refine hQ _ _ _ (retPure τ_ok (fun g => by simp) ?_)
 conv => whnf
 try rfl
theorem typing_onSet_1_2_ok (n : Nat) (p0 : List Ty) (r : Ty × Bool) (h : typing_onSet_1_2 n p0 = some r) : ACalls Tryz.prog 264 [sTy p0, .eptr [.func 224 []]] [] (.tup [aTy r.1, .bool r.2]) [] := by
 unfold typing_onSet_1_2 at h
 refine acalls_start true Tryz.func264 rfl (nt Tryz.ntmps264 rfl) fun Q hQ t ht => ?_
 conv at ht => whnf
 subst ht
 refine .q fun K1 k1 => rg 1 ?_
 refine k1 _ _ ?_
 refine .q fun K2 k2 => rg 1 ?_
 obtain ⟨x1, hx1, h⟩ := ob h
 refine idx_of (l := p0) (f := encTy) (cs := [.i ((x1).kind), .str ((x1).name), sTy ((x1).kids)]) hx1 (encTy_eq x1) rfl ?_
 obtain ⟨x2, hx2, h⟩ := ob h
 refine cp (typing_elementOf_ok _ _ _ hx2) okF_134 (.cons (.same _) .nil) ?_
 refine k2 _ _ ?_
 refine .q fun K3 k3 => .q fun K4 k4 => rg 0 ?_
 refine k4 _ _ ?_
 refine .condS rfl h (fun hc1 h => ?_) (fun hc1 h => ?_)
 ·refine .q fun K5 k5 => rg 0 ?_
  refine k5 _ _ ?_
  refine .ret ?_
  have e9 := sj h
  subst e9
  refine hQ _ _ _ (retPure τ_ok (fun g => by simp) ?_)
  conv => whnf
  try rfl
 ·refine .skip ?_
  refine k3 _ _ ?_
  refine .q fun K6 k6 => rg 0 ?_
  refine cp (typing_rows_11_ok 0 x2.1 _ rfl) okF_224 (.cons (.same _) .nil) ?_
  refine k6 _ _ ?_
  refine .ret ?_
  have e9 := sj h
  subst e9
  refine hQ _ _ _ (retPure τ_ok (fun g => by simp) ?_)
  conv => whnf
  try rfl
theorem typing_rows_5_ok (n : Nat) (p0 : Ty) (r : Ty × Bool) (h : typing_rows_5 n p0 = some r) : ACalls Tryz.prog 211 [aTy p0] [] (.tup [aTy r.1, .bool r.2]) [] := by
 unfold typing_rows_5 at h
 refine acalls_start true Tryz.func211 rfl (nt Tryz.ntmps211 rfl) fun Q hQ t ht => ?_
 conv at ht => whnf
 subst ht
 refine .q fun K1 k1 => rg 2 ?_
 refine k1 _ _ ?_
 refine .q fun K2 k2 => rg 0 ?_
 refine call_pur (typing_integer_ok 0 _ rfl) okF_200 .nil (fun g => rfl) (fun g => by simp) ?_
 refine ⟨rfl, ?_⟩
 refine k2 _ _ ?_
 refine .ret ?_
 have e9 := sj h
 subst e9
 refine hQ _ _ _ (retPure τ_ok (fun g => by simp) ?_)
 conv => whnf
 try rfl
theorem typing_onSet_1_3_ok (n : Nat) (p0 : List Ty) (r : Ty × Bool) (h : typing_onSet_1_3 n p0 = some r) : ACalls Tryz.prog 264 [sTy p0, .eptr [.func 211 []]] [] (.tup [aTy r.1, .bool r.2]) [] := by
 unfold typing_onSet_1_3 at h
 refine acalls_start true Tryz.func264 rfl (nt Tryz.ntmps264 rfl) fun Q hQ t ht => ?_
 conv at ht => whnf
 subst ht
 refine .q fun K1 k1 => rg 1 ?_
 refine k1 _ _ ?_
 refine .q fun K2 k2 => rg 1 ?_
 obtain ⟨x1, hx1, h⟩ := ob h
 refine idx_of (l := p0) (f := encTy) (cs := [.i ((x1).kind), .str ((x1).name), sTy ((x1).kids)]) hx1 (encTy_eq x1) rfl ?_
 obtain ⟨x2, hx2, h⟩ := ob h
 refine cp (typing_elementOf_ok _ _ _ hx2) okF_134 (.cons (.same _) .nil) ?_
 refine k2 _ _ ?_
 refine .q fun K3 k3 => .q fun K4 k4 => rg 0 ?_
 refine k4 _ _ ?_
 refine .condS rfl h (fun hc1 h => ?_) (fun hc1 h => ?_)
 ·refine .q fun K5 k5 => rg 0 ?_
  refine k5 _ _ ?_
  refine .ret ?_
  have e9 := sj h
  subst e9
  refine hQ _ _ _ (retPure τ_ok (fun g => by simp) ?_)
  conv => whnf
  try rfl
 ·refine .skip ?_
  refine k3 _ _ ?_
  refine .q fun K6 k6 => rg 0 ?_
  refine cp (typing_rows_5_ok 0 x2.1 _ rfl) okF_211 (.cons (.same _) .nil) ?_
  refine k6 _ _ ?_
  refine .ret ?_
  have e9 := sj h
  subst e9
  refine hQ _ _ _ (retPure τ_ok (fun g => by simp) ?_)
  conv => whnf
  try rfl
theorem typing_rows_12_ok (n : Nat) (p0 : Ty) (p1 : Ty) (p2 : List Ty) (r : Ty × Bool) (h : typing_rows_12 n p0 p1 p2 = some r) : ACalls Tryz.prog 225 [aTy p0, aTy p1, sTy p2] [] (.tup [aTy r.1, .bool r.2]) [] := by
 unfold typing_rows_12 at h
 refine acalls_start true Tryz.func225 rfl (nt Tryz.ntmps225 rfl) fun Q hQ t ht => ?_
 conv at ht => whnf
 subst ht
 refine .q fun K1 k1 => rg 3 ?_
 refine k1 _ _ ?_
 refine .q fun K2 k2 => rg 0 ?_
 refine cp (typing_setOf_ok 0 p0 _ rfl) okF_138 (.cons (.same _) .nil) ?_
 refine k2 _ _ ?_
 refine .ret ?_
 have e9 := sj h
 subst e9
 refine hQ _ _ _ (retPure τ_ok (fun g => by simp) ?_)
 conv => whnf
 try rfl
theorem typing_onRelation_1_4_ok (n : Nat) (p0 : List Ty) (r : Ty × Bool) (h : typing_onRelation_1_4 n p0 = some r) : ACalls Tryz.prog 263 [sTy p0, .eptr [.func 225 []]] [] (.tup [aTy r.1, .bool r.2]) [] := by
 unfold typing_onRelation_1_4 at h
 refine acalls_start true Tryz.func263 rfl (nt Tryz.ntmps263 rfl) fun Q hQ t ht => ?_
 conv at ht => whnf
 subst ht
 refine .q fun K1 k1 => rg 1 ?_
 refine k1 _ _ ?_
 refine .q fun K2 k2 => rg 2 ?_
 obtain ⟨x1, hx1, h⟩ := ob h
 refine idx_of (l := p0) (f := encTy) (cs := [.i ((x1).kind), .str ((x1).name), sTy ((x1).kids)]) hx1 (encTy_eq x1) rfl ?_
 obtain ⟨x2, hx2, h⟩ := ob h
 refine cp (typing_sides_ok _ _ _ hx2) okF_207 (.cons (.same _) .nil) ?_
 refine k2 _ _ ?_
 refine .q fun K3 k3 => .q fun K4 k4 => rg 0 ?_
 refine k4 _ _ ?_
 refine .condS rfl h (fun hc1 h => ?_) (fun hc1 h => ?_)
 ·refine .q fun K5 k5 => rg 0 ?_
  refine k5 _ _ ?_
  refine .ret ?_
  have e9 := sj h
  subst e9
  refine hQ _ _ _ (retPure τ_ok (fun g => by simp) ?_)
  conv => whnf
  try rfl
 ·refine .skip ?_
  refine k3 _ _ ?_
  refine .q fun K6 k6 => rg 0 ?_
  refine cp (typing_rows_12_ok 0 x2.1 x2.2.1 p0 _ rfl) okF_225 (.cons (.same _) (.cons (.same _) (.cons (.same _) .nil))) ?_
  refine k6 _ _ ?_
  refine .ret ?_
  have e9 := sj h
  subst e9
  refine hQ _ _ _ (retPure τ_ok (fun g => by simp) ?_)
  conv => whnf
  try rfl
theorem typing_rows_13_ok (n : Nat) (p0 : Ty) (p1 : Ty) (p2 : List Ty) (r : Ty × Bool) (h : typing_rows_13 n p0 p1 p2 = some r) : ACalls Tryz.prog 226 [aTy p0, aTy p1, sTy p2] [] (.tup [aTy r.1, .bool r.2]) [] := by
 unfold typing_rows_13 at h
 refine acalls_start true Tryz.func226 rfl (nt Tryz.ntmps226 rfl) fun Q hQ t ht => ?_
 conv at ht => whnf
 subst ht
 refine .q fun K1 k1 => rg 3 ?_
 refine k1 _ _ ?_
 refine .q fun K2 k2 => rg 0 ?_
 refine cp (typing_setOf_ok 0 p1 _ rfl) okF_138 (.cons (.same _) .nil) ?_
 refine k2 _ _ ?_
 refine .ret ?_
 have e9 := sj h
 subst e9
 refine hQ _ _ _ (retPure τ_ok (fun g => by simp) ?_)
 conv => whnf
 try rfl
theorem typing_onRelation_1_5_ok (n : Nat) (p0 : List Ty) (r : Ty × Bool) (h : typing_onRelation_1_5 n p0 = some r) : ACalls Tryz.prog 263 [sTy p0, .eptr [.func 226 []]] [] (.tup [aTy r.1, .bool r.2]) [] := by
 unfold typing_onRelation_1_5 at h
 refine acalls_start true Tryz.func263 rfl (nt Tryz.ntmps263 rfl) fun Q hQ t ht => ?_
 conv at ht => whnf
 subst ht
 refine .q fun K1 k1 => rg 1 ?_
 refine k1 _ _ ?_
 refine .q fun K2 k2 => rg 2 ?_
 obtain ⟨x1, hx1, h⟩ := ob h
 refine idx_of (l := p0) (f := encTy) (cs := [.i ((x1).kind), .str ((x1).name), sTy ((x1).kids)]) hx1 (encTy_eq x1) rfl ?_
 obtain ⟨x2, hx2, h⟩ := ob h
 refine cp (typing_sides_ok _ _ _ hx2) okF_207 (.cons (.same _) .nil) ?_
 refine k2 _ _ ?_
 refine .q fun K3 k3 => .q fun K4 k4 => rg 0 ?_
 refine k4 _ _ ?_
 refine .condS rfl h (fun hc1 h => ?_) (fun hc1 h => ?_)
 ·refine .q fun K5 k5 => rg 0 ?_
  refine k5 _ _ ?_
  refine .ret ?_
  have e9 := sj h
  subst e9
  refine hQ _ _ _ (retPure τ_ok (fun g => by simp) ?_)
  conv => whnf
  try rfl
 ·refine .skip ?_
  refine k3 _ _ ?_
  refine .q fun K6 k6 => rg 0 ?_
  refine cp (typing_rows_13_ok 0 x2.1 x2.2.1 p0 _ rfl) okF_226 (.cons (.same _) (.cons (.same _) (.cons (.same _) .nil))) ?_
  refine k6 _ _ ?_
  refine .ret ?_
  have e9 := sj h
  subst e9
  refine hQ _ _ _ (retPure τ_ok (fun g => by simp) ?_)
  conv => whnf
  try rfl
theorem typing_rows_14_ok (n : Nat) (p0 : Ty) (p1 : Ty) (p2 : List Ty) (r : Ty × Bool) (h : typing_rows_14 n p0 p1 p2 = some r) : ACalls Tryz.prog 227 [aTy p0, aTy p1, sTy p2] [] (.tup [aTy r.1, .bool r.2]) [] := by
 unfold typing_rows_14 at h
 refine acalls_start true Tryz.func227 rfl (nt Tryz.ntmps227 rfl) fun Q hQ t ht => ?_
 conv at ht => whnf
 subst ht
 refine .q fun K1 k1 => rg 3 ?_
 refine k1 _ _ ?_
 refine .q fun K2 k2 => rg 0 ?_
 refine cp (typing_relation_ok 0 p1 p0 _ rfl) okF_205 (.cons (.same _) (.cons (.same _) .nil)) ?_
 refine k2 _ _ ?_
 refine .ret ?_
 have e9 := sj h
 subst e9
 refine hQ _ _ _ (retPure τ_ok (fun g => by simp) ?_)
 conv => whnf
 try rfl
end Abs
end Go.Proofs.YtiiaccpcoclklaaGreat
namespace Go.Proofs.YtiiaccpcoclklaaGreat
namespace Abs
open Go Go.Proofs
set_option maxRecDepth 100000
set_option maxHeartbeats 40000000
theorem typing_onRelation_1_6_ok (n : Nat) (p0 : List Ty) (r : Ty × Bool) (h : typing_onRelation_1_6 n p0 = some r) : ACalls Tryz.prog 263 [sTy p0, .eptr [.func 227 []]] [] (.tup [aTy r.1, .bool r.2]) [] := by
 unfold typing_onRelation_1_6 at h
 refine acalls_start true Tryz.func263 rfl (nt Tryz.ntmps263 rfl) fun Q hQ t ht => ?_
 conv at ht => whnf
 subst ht
 refine .q fun K1 k1 => rg 1 ?_
 refine k1 _ _ ?_
 refine .q fun K2 k2 => rg 2 ?_
 obtain ⟨x1, hx1, h⟩ := ob h
 refine idx_of (l := p0) (f := encTy) (cs := [.i ((x1).kind), .str ((x1).name), sTy ((x1).kids)]) hx1 (encTy_eq x1) rfl ?_
 obtain ⟨x2, hx2, h⟩ := ob h
 refine cp (typing_sides_ok _ _ _ hx2) okF_207 (.cons (.same _) .nil) ?_
 refine k2 _ _ ?_
 refine .q fun K3 k3 => .q fun K4 k4 => rg 0 ?_
 refine k4 _ _ ?_
 refine .condS rfl h (fun hc1 h => ?_) (fun hc1 h => ?_)
 ·refine .q fun K5 k5 => rg 0 ?_
  refine k5 _ _ ?_
  refine .ret ?_
  have e9 := sj h
  subst e9
  refine hQ _ _ _ (retPure τ_ok (fun g => by simp) ?_)
  conv => whnf
  try rfl
 ·refine .skip ?_
  refine k3 _ _ ?_
  refine .q fun K6 k6 => rg 0 ?_
  refine cp (typing_rows_14_ok 0 x2.1 x2.2.1 p0 _ rfl) okF_227 (.cons (.same _) (.cons (.same _) (.cons (.same _) .nil))) ?_
  refine k6 _ _ ?_
  refine .ret ?_
  have e9 := sj h
  subst e9
  refine hQ _ _ _ (retPure τ_ok (fun g => by simp) ?_)
  conv => whnf
  try rfl
theorem typing_rows_15_ok (n : Nat) (p0 : Ty) (p1 : Ty) (p2 : List Ty) (r : Ty × Bool) (h : typing_rows_15 n p0 p1 p2 = some r) : ACalls Tryz.prog 228 [aTy p0, aTy p1, sTy p2] [] (.tup [aTy r.1, .bool r.2]) [] := by
 unfold typing_rows_15 at h
 refine acalls_start true Tryz.func228 rfl (nt Tryz.ntmps228 rfl) fun Q hQ t ht => ?_
 conv at ht => whnf
 subst ht
 refine .q fun K1 k1 => rg 3 ?_
 refine k1 _ _ ?_
 refine .q fun K2 k2 => rg 1 ?_
 obtain ⟨x1, hx1, h⟩ := ob h
 refine idx_of (l := p2) (f := encTy) (cs := [.i ((x1).kind), .str ((x1).name), sTy ((x1).kids)]) hx1 (encTy_eq x1) rfl ?_
 obtain ⟨x2, hx2, h⟩ := ob h
 refine cp (typing_elementOf_ok _ _ _ hx2) okF_134 (.cons (.same _) .nil) ?_
 refine k2 _ _ ?_
 refine .q fun K3 k3 => ?_
 obtain ⟨s1, hj1, h⟩ := ob h
 have hR1 : ∀ t9 h9, Le 0 t9 h9 (u4 (u2 (.ptr 0 0 :: (.bool s1 :: (u16 (.unk :: [])))))) [.box [.i 5, .str ([] : Str), sTy ([p1])]] → K3 t9 h9 := by
  intro t9 h9 hw
  refine k3 _ _ (AW.le hw ?_)
  clear hw
  refine .ret ?_
  have e9 := sj h
  subst e9
  refine hQ _ _ _ (retPure τ_ok (fun g => by simp) ?_)
  conv => whnf
  try rfl
 refine rg 0 ?_
 refine cp (typing_setOf_ok 0 p1 _ rfl) okF_138 (.cons (.same _) .nil) ?_
 refine onB_cond hj1 (fun hc1 hj1 => ?_) (fun hc1 hj1 => ?_)
 ·obtain ⟨x3, hx3, hj1⟩ := ob hj1
  refine call_pur (typing_equal_ok _ _ _ _ hx3) okF_93 (.cons (.same _) (.cons (.same _) .nil)) (fun g => by simp) (fun g => rfl) ?_
  cases hj1
  exact hR1 _ _ (wk [some 2] (.u4 (.u2 (.c rfl (.c rfl (.u16 (.u .nil)))))) (.b rfl (.c rfl (.c rfl (.e renl_Ty .nil))) .nil) rfl)
 ·cases hj1
  exact hR1 _ _ (wk [some 2] (.u4 (.u2 (.c rfl (.c rfl (.u16 (.u .nil)))))) (.b rfl (.c rfl (.c rfl (.e renl_Ty .nil))) .nil) rfl)
theorem typing_onRelation_1_7_ok (n : Nat) (p0 : List Ty) (r : Ty × Bool) (h : typing_onRelation_1_7 n p0 = some r) : ACalls Tryz.prog 263 [sTy p0, .eptr [.func 228 []]] [] (.tup [aTy r.1, .bool r.2]) [] := by
 unfold typing_onRelation_1_7 at h
 refine acalls_start true Tryz.func263 rfl (nt Tryz.ntmps263 rfl) fun Q hQ t ht => ?_
 conv at ht => whnf
 subst ht
 refine .q fun K1 k1 => rg 1 ?_
 refine k1 _ _ ?_
 refine .q fun K2 k2 => rg 2 ?_
 obtain ⟨x1, hx1, h⟩ := ob h
 refine idx_of (l := p0) (f := encTy) (cs := [.i ((x1).kind), .str ((x1).name), sTy ((x1).kids)]) hx1 (encTy_eq x1) rfl ?_
 obtain ⟨x2, hx2, h⟩ := ob h
 refine cp (typing_sides_ok _ _ _ hx2) okF_207 (.cons (.same _) .nil) ?_
 refine k2 _ _ ?_
 refine .q fun K3 k3 => .q fun K4 k4 => rg 0 ?_
 refine k4 _ _ ?_
 refine .condS rfl h (fun hc1 h => ?_) (fun hc1 h => ?_)
 ·refine .q fun K5 k5 => rg 0 ?_
  refine k5 _ _ ?_
  refine .ret ?_
  have e9 := sj h
  subst e9
  refine hQ _ _ _ (retPure τ_ok (fun g => by simp) ?_)
  conv => whnf
  try rfl
 ·refine .skip ?_
  refine k3 _ _ ?_
  refine .q fun K6 k6 => rg 0 ?_
  obtain ⟨x3, hx3, h⟩ := ob h
  refine cp (typing_rows_15_ok _ _ _ _ _ hx3) okF_228 (.cons (.same _) (.cons (.same _) (.cons (.same _) .nil))) ?_
  refine k6 _ _ ?_
  refine .ret ?_
  have e9 := sj h
  subst e9
  refine hQ _ _ _ (retPure τ_ok (fun g => by simp) ?_)
  conv => whnf
  try rfl
theorem typing_rows_16_ok (n : Nat) (p0 : Ty) (p1 : Ty) (p2 : List Ty) (r : Ty × Bool) (h : typing_rows_16 n p0 p1 p2 = some r) : ACalls Tryz.prog 229 [aTy p0, aTy p1, sTy p2] [] (.tup [aTy r.1, .bool r.2]) [] := by
 unfold typing_rows_16 at h
 refine acalls_start true Tryz.func229 rfl (nt Tryz.ntmps229 rfl) fun Q hQ t ht => ?_
 conv at ht => whnf
 subst ht
 refine .q fun K1 k1 => rg 3 ?_
 refine k1 _ _ ?_
 refine .q fun K2 k2 => rg 0 ?_
 obtain ⟨x1, hx1, h⟩ := ob h
 refine idx_of (l := p2) (f := encTy) (cs := [.i ((x1).kind), .str ((x1).name), sTy ((x1).kids)]) hx1 (encTy_eq x1) rfl ?_
 obtain ⟨x2, hx2, h⟩ := ob h
 refine call_pur (typing_equal_ok _ _ _ _ hx2) okF_93 (.cons (.same _) (.cons (.same _) .nil)) (fun g => by simp) (fun g => rfl) ?_
 refine ⟨rfl, ?_⟩
 refine k2 _ _ ?_
 refine .ret ?_
 have e9 := sj h
 subst e9
 refine hQ _ _ _ (retPure τ_ok (fun g => by simp) ?_)
 conv => whnf
 try rfl
theorem typing_onRelation_1_8_ok (n : Nat) (p0 : List Ty) (r : Ty × Bool) (h : typing_onRelation_1_8 n p0 = some r) : ACalls Tryz.prog 263 [sTy p0, .eptr [.func 229 []]] [] (.tup [aTy r.1, .bool r.2]) [] := by
 unfold typing_onRelation_1_8 at h
 refine acalls_start true Tryz.func263 rfl (nt Tryz.ntmps263 rfl) fun Q hQ t ht => ?_
 conv at ht => whnf
 subst ht
 refine .q fun K1 k1 => rg 1 ?_
 refine k1 _ _ ?_
 refine .q fun K2 k2 => rg 2 ?_
 obtain ⟨x1, hx1, h⟩ := ob h
 refine idx_of (l := p0) (f := encTy) (cs := [.i ((x1).kind), .str ((x1).name), sTy ((x1).kids)]) hx1 (encTy_eq x1) rfl ?_
 obtain ⟨x2, hx2, h⟩ := ob h
 refine cp (typing_sides_ok _ _ _ hx2) okF_207 (.cons (.same _) .nil) ?_
 refine k2 _ _ ?_
 refine .q fun K3 k3 => .q fun K4 k4 => rg 0 ?_
 refine k4 _ _ ?_
 refine .condS rfl h (fun hc1 h => ?_) (fun hc1 h => ?_)
 ·refine .q fun K5 k5 => rg 0 ?_
  refine k5 _ _ ?_
  refine .ret ?_
  have e9 := sj h
  subst e9
  refine hQ _ _ _ (retPure τ_ok (fun g => by simp) ?_)
  conv => whnf
  try rfl
 ·refine .skip ?_
  refine k3 _ _ ?_
  refine .q fun K6 k6 => rg 0 ?_
  obtain ⟨x3, hx3, h⟩ := ob h
  refine cp (typing_rows_16_ok _ _ _ _ _ hx3) okF_229 (.cons (.same _) (.cons (.same _) (.cons (.same _) .nil))) ?_
  refine k6 _ _ ?_
  refine .ret ?_
  have e9 := sj h
  subst e9
  refine hQ _ _ _ (retPure τ_ok (fun g => by simp) ?_)
  conv => whnf
  try rfl
theorem typing_body_1_2_ok (n : Nat) (p0 : List Ty) (r : Ty × Bool) (h : typing_body_1_2 n p0 = some r) : ACalls Tryz.prog 266 [sTy p0, .eptr [.func 215 []]] [] (.tup [aTy r.1, .bool r.2]) [] := by
 unfold typing_body_1_2 at h
 refine acalls_start true Tryz.func266 rfl (nt Tryz.ntmps266 rfl) fun Q hQ t ht => ?_
 conv at ht => whnf
 subst ht
 refine .q fun K1 k1 => rg 1 ?_
 refine k1 _ _ ?_
 refine .q fun K2 k2 => rg 0 ?_
 obtain ⟨x1, hx1, h⟩ := ob h
 refine idx_of (l := p0) (f := encTy) (cs := [.i ((x1).kind), .str ((x1).name), sTy ((x1).kids)]) hx1 (encTy_eq x1) rfl ?_
 refine cp (typing_itself_ok 0 x1 _ rfl) okF_215 (.cons (.same _) .nil) ?_
 obtain ⟨x2, hx2, h⟩ := ob h
 refine idx_of (l := p0) (f := encTy) (cs := [.i ((x2).kind), .str ((x2).name), sTy ((x2).kids)]) hx2 (encTy_eq x2) rfl ?_
 refine ⟨rfl, ?_⟩
 refine k2 _ _ ?_
 refine .ret ?_
 have e9 := sj h
 subst e9
 refine hQ _ _ _ (retPure τ_ok (fun g => by simp) ?_)
 conv => whnf
 try rfl
theorem typing_rows_17_ok (n : Nat) (p0 : List Ty) (r : Ty × Bool) (h : typing_rows_17 n p0 = some r) : ACalls Tryz.prog 230 [sTy p0] [] (.tup [aTy r.1, .bool r.2]) [] := by
 unfold typing_rows_17 at h
 refine acalls_start true Tryz.func230 rfl (nt Tryz.ntmps230 rfl) fun Q hQ t ht => ?_
 conv at ht => whnf
 subst ht
 refine .q fun K1 k1 => rg 1 ?_
 refine k1 _ _ ?_
 refine .q fun K2 k2 => rg 1 ?_
 obtain ⟨x1, hx1, h⟩ := ob h
 refine idx_of (l := p0) (f := encTy) (cs := [.i ((x1).kind), .str ((x1).name), sTy ((x1).kids)]) hx1 (encTy_eq x1) rfl ?_
 obtain ⟨x2, hx2, h⟩ := ob h
 refine cp (typing_elementOf_ok _ _ _ hx2) okF_134 (.cons (.same _) .nil) ?_
 refine k2 _ _ ?_
 refine .q fun K3 k3 => ?_
 obtain ⟨s1, hj1, h⟩ := ob h
 have hR1 : ∀ t9 h9, Le 0 t9 h9 (u2 (.ptr 0 0 :: (.bool s1.1 :: (u16 (u4 (u2 [])))))) [.box [.i 5, .str ([] : Str), sTy s1.2]] → K3 t9 h9 := by
  intro t9 h9 hw
  refine k3 _ _ (AW.le hw ?_)
  clear hw
  refine .ret ?_
  have e9 := sj h
  subst e9
  refine hQ _ _ _ (retPure τ_ok (fun g => by simp) ?_)
  conv => whnf
  try rfl
 refine rg 0 ?_
 obtain ⟨x3, hx3, hj1⟩ := ob hj1
 refine idx_of (l := p0) (f := encTy) (cs := [.i ((x3).kind), .str ((x3).name), sTy ((x3).kids)]) hx3 (encTy_eq x3) rfl ?_
 refine cp (typing_relation_ok 0 x2.1 x3 _ rfl) okF_205 (.cons (.same _) (.cons (.same _) .nil)) ?_
 refine onB_cond hj1 (fun hc1 hj1 => ?_) (fun hc1 hj1 => ?_)
 ·obtain ⟨x4, hx4, hj1⟩ := ob hj1
  refine idx_of (l := p0) (f := encTy) (cs := [.i ((x4).kind), .str ((x4).name), sTy ((x4).kids)]) hx4 (encTy_eq x4) rfl ?_
  refine ⟨rfl, ?_⟩
  cases hj1
  exact hR1 _ _ (wk [some 0] (.u2 (.c rfl (.c rfl (.u16 (.u4 (.u2 .nil)))))) (.b rfl (.c rfl (.c rfl (.e renl_Ty .nil))) .nil) rfl)
 ·refine ⟨rfl, ?_⟩
  cases hj1
  exact hR1 _ _ (wk [some 0] (.u2 (.c rfl (.c rfl (.u16 (.u4 (.u2 .nil)))))) (.b rfl (.c rfl (.c rfl (.e renl_Ty .nil))) .nil) rfl)
end Abs
end Go.Proofs.YtiiaccpcoclklaaGreat
