/-
  Plain functions and the contracts of Go functions by them (printed by gen.py). Conditions: none.
-/
import Derived.KernelRfl
import Derived.Test.YtiiaccpcoclklaaGreatCData2x72b33f
import Derived.Test.YtiiaccpcoclklaaGreatCDfx3b4a26
import Derived.Test.YtiiaccpcoclklaaGreatCTDx6f8f78
import Derived.Test.YtiiaccpcoclklaaGreatCT6x5c86cd
import Derived.Test.YtiiaccpcoclklaaGreatCT9x99a178
import Derived.Test.YtiiaccpcoclklaaGreatCT11x73dee3
set_option linter.unusedSimpArgs false
set_option linter.unusedVariables false
namespace Go.Proofs.YtiiaccpcoclklaaGreat
namespace Abs
open Go Go.Proofs
set_option maxRecDepth 100000
set_option maxHeartbeats 40000000
theorem typing_rows_6_ok (n : Nat) (p0 : List Ty) (r : Ty × Bool) (h : typing_rows_6 n p0 = some r) : ACalls Tryz.prog 218 [sTy p0] [] (.tup [aTy r.1, .bool r.2]) [] := by
 unfold typing_rows_6 at h
 refine acalls_start true Tryz.func218 rfl (nt Tryz.ntmps218 rfl) fun Q hQ t ht => ?_
 conv at ht => whnf
 subst ht
 refine .q fun K1 k1 => rg 1 ?_
 refine k1 _ _ ?_
 refine .q fun K2 k2 => ?_
 obtain ⟨s1, hj1, h⟩ := ob h
 have hR1 : ∀ t9 h9, Le 0 t9 h9 (u2 (.ptr 0 0 :: (.bool s1.1 :: (u16 (u2 (.unk :: [])))))) [.box [.i 4, .str ([] : Str), sTy s1.2]] → K2 t9 h9 := by
  intro t9 h9 hw
  refine k2 _ _ (AW.le hw ?_)
  clear hw
  refine .ret ?_
  have e9 := sj h
  subst e9
  refine hQ _ _ _ (retPure τ_ok (fun g => by simp) ?_)
  conv => whnf
  try rfl
 refine rg 0 ?_
 obtain ⟨x1, hx1, hj1⟩ := ob hj1
 refine idx_of (l := p0) (f := encTy) (cs := [.i ((x1).kind), .str ((x1).name), sTy ((x1).kids)]) hx1 (encTy_eq x1) rfl ?_
 obtain ⟨x2, hx2, hj1⟩ := ob hj1
 refine idx_of (l := p0) (f := encTy) (cs := [.i ((x2).kind), .str ((x2).name), sTy ((x2).kids)]) hx2 (encTy_eq x2) rfl ?_
 refine cp (typing_pairOf_ok 0 x1 x2 _ rfl) okF_219 (.cons (.same _) (.cons (.same _) .nil)) ?_
 obtain ⟨x3, hx3, hj1⟩ := ob hj1
 refine idx_of (l := p0) (f := encTy) (cs := [.i ((x3).kind), .str ((x3).name), sTy ((x3).kids)]) hx3 (encTy_eq x3) rfl ?_
 refine onB_cond hj1 (fun hc1 hj1 => ?_) (fun hc1 hj1 => ?_)
 ·obtain ⟨x4, hx4, hj1⟩ := ob hj1
  refine idx_of (l := p0) (f := encTy) (cs := [.i ((x4).kind), .str ((x4).name), sTy ((x4).kids)]) hx4 (encTy_eq x4) rfl ?_
  refine ⟨rfl, ?_⟩
  cases hj1
  exact hR1 _ _ (li (.u2 (.s (.s (.u16 (.u2 (.u .n)))))))
 ·refine ⟨rfl, ?_⟩
  cases hj1
  exact hR1 _ _ (li (.u2 (.s (.s (.u16 (.u2 (.u .n)))))))
theorem typing_rows_7_ok (n : Nat) (p0 : List Ty) (r : Ty × Bool) (h : typing_rows_7 n p0 = some r) : ACalls Tryz.prog 220 [sTy p0] [] (.tup [aTy r.1, .bool r.2]) [] := by
 unfold typing_rows_7 at h
 refine acalls_start true Tryz.func220 rfl (nt Tryz.ntmps220 rfl) fun Q hQ t ht => ?_
 conv at ht => whnf
 subst ht
 refine .q fun K1 k1 => rg 1 ?_
 refine k1 _ _ ?_
 refine .q fun K2 k2 => rg 0 ?_
 obtain ⟨x1, hx1, h⟩ := ob h
 refine idx_of (l := p0) (f := encTy) (cs := [.i ((x1).kind), .str ((x1).name), sTy ((x1).kids)]) hx1 (encTy_eq x1) rfl ?_
 refine cp (typing_setOf_ok 0 x1 _ rfl) okF_138 (.cons (.same _) .nil) ?_
 obtain ⟨x2, hx2, h⟩ := ob h
 refine call_pur (typing_alike_ok _ _ _ hx2) okF_202 (.cons (.same _) .nil) (fun g => by simp) (fun g => rfl) ?_
 refine k2 _ _ ?_
 refine .ret ?_
 have e9 := sj h
 subst e9
 refine hQ _ _ _ (retPure τ_ok (fun g => by simp) ?_)
 conv => whnf
 try rfl
theorem typing_itself_ok (n : Nat) (p0 : Ty) (r : Ty) (h : typing_itself n p0 = some r) : ACalls Tryz.prog 215 [aTy p0] [] (aTy r) [] := by
 unfold typing_itself at h
 refine acalls_start true Tryz.func215 rfl (nt Tryz.ntmps215 rfl) fun Q hQ t ht => ?_
 conv at ht => whnf
 subst ht
 refine .q fun K1 k1 => rg 2 ?_
 refine k1 _ _ ?_
 refine .q fun K2 k2 => rg 0 ?_
 refine k2 _ _ ?_
 refine .ret ?_
 have e9 := sj h
 subst e9
 refine hQ _ _ _ (retPure τ_ok (fun g => by simp) ?_)
 conv => whnf
 try rfl
theorem typing_sets_1_2_ok (n : Nat) (p0 : List Ty) (r : Ty × Bool) (h : typing_sets_1_2 n p0 = some r) : ACalls Tryz.prog 267 [sTy p0, .eptr [.func 215 []]] [] (.tup [aTy r.1, .bool r.2]) [] := by
 unfold typing_sets_1_2 at h
 refine acalls_start true Tryz.func267 rfl (nt Tryz.ntmps267 rfl) fun Q hQ t ht => ?_
 conv at ht => whnf
 subst ht
 refine .q fun K1 k1 => rg 1 ?_
 refine k1 _ _ ?_
 refine .q fun K2 k2 => ?_
 obtain ⟨s1, hj1, h⟩ := ob h
 have hR1 : ∀ t9 h9, Le 0 t9 h9 (u2 (.unk :: (.ptr 0 0 :: (.bool s1.1 :: (u8 (u4 (u2 []))))))) [.box [.i s1.2.1, .str s1.2.2.1, sTy s1.2.2.2]] → K2 t9 h9 := by
  intro t9 h9 hw
  refine k2 _ _ (AW.le hw ?_)
  clear hw
  refine .ret ?_
  have e9 := sj h
  subst e9
  refine hQ _ _ _ (retPure τ_ok (fun g => by simp) ?_)
  conv => whnf
  try rfl
 refine rg 0 ?_
 obtain ⟨x1, hx1, hj1⟩ := ob hj1
 refine idx_of (l := p0) (f := encTy) (cs := [.i ((x1).kind), .str ((x1).name), sTy ((x1).kids)]) hx1 (encTy_eq x1) rfl ?_
 refine cp (typing_itself_ok 0 x1 _ rfl) okF_215 (.cons (.same _) .nil) ?_
 obtain ⟨x2, hx2, hj1⟩ := ob hj1
 refine idx_of (l := p0) (f := encTy) (cs := [.i ((x2).kind), .str ((x2).name), sTy ((x2).kids)]) hx2 (encTy_eq x2) rfl ?_
 refine onB_cond hj1 (fun hc1 hj1 => ?_) (fun hc1 hj1 => ?_)
 ·obtain ⟨x3, hx3, hj1⟩ := ob hj1
  refine call_pur (typing_alike_ok _ _ _ hx3) okF_202 (.cons (.same _) .nil) (fun g => by simp) (fun g => rfl) ?_
  refine ⟨rfl, ?_⟩
  cases hj1
  exact hR1 _ _ (li (.u2 (.u (.s (.s (.u8 (.u4 (.u2 .n))))))))
 ·refine ⟨rfl, ?_⟩
  cases hj1
  exact hR1 _ _ (li (.u2 (.u (.s (.s (.u8 (.u4 (.u2 .n))))))))
theorem typing_relation_ok (n : Nat) (p0 : Ty) (p1 : Ty) (r : Ty) (h : typing_relation n p0 p1 = some r) : ACalls Tryz.prog 205 [aTy p0, aTy p1] [] (aTy r) [] := by
 unfold typing_relation at h
 refine acalls_start true Tryz.func205 rfl (nt Tryz.ntmps205 rfl) fun Q hQ t ht => ?_
 conv at ht => whnf
 subst ht
 refine .q fun K1 k1 => rg 3 ?_
 refine k1 _ _ ?_
 refine .q fun K2 k2 => rg 0 ?_
 refine cp (typing_pairOf_ok 0 p0 p1 _ rfl) okF_219 (.cons (.same _) (.cons (.same _) .nil)) ?_
 refine cp (typing_setOf_ok 0 (Ty.mk 4 ([] : Str) ([p0, p1])) _ rfl) okF_138 (.cons (.same _) .nil) ?_
 refine k2 _ _ ?_
 refine .ret ?_
 have e9 := sj h
 subst e9
 refine hQ _ _ _ (retPure τ_ok (fun g => by simp) ?_)
 conv => whnf
 try rfl
theorem typing_two_1_1_ok (n : Nat) (p0 : List Ty) (r : Ty × Bool) (h : typing_two_1_1 n p0 = some r) : ACalls Tryz.prog 262 [sTy p0, .eptr [.func 205 []]] [] (.tup [aTy r.1, .bool r.2]) [] := by
 unfold typing_two_1_1 at h
 refine acalls_start true Tryz.func262 rfl (nt Tryz.ntmps262 rfl) fun Q hQ t ht => ?_
 conv at ht => whnf
 subst ht
 refine .q fun K1 k1 => rg 1 ?_
 refine k1 _ _ ?_
 refine .q fun K2 k2 => rg 1 ?_
 obtain ⟨x1, hx1, h⟩ := ob h
 refine idx_of (l := p0) (f := encTy) (cs := [.i ((x1).kind), .str ((x1).name), sTy ((x1).kids)]) hx1 (encTy_eq x1) rfl ?_
 obtain ⟨x2, hx2, h⟩ := ob h
 refine cp (typing_elementOf_ok _ _ _ hx2) okF_134 (.cons (.same _) .nil) ?_
 refine k2 _ _ ?_
 refine .q fun K3 k3 => rg 1 ?_
 obtain ⟨x3, hx3, h⟩ := ob h
 refine idx_of (l := p0) (f := encTy) (cs := [.i ((x3).kind), .str ((x3).name), sTy ((x3).kids)]) hx3 (encTy_eq x3) rfl ?_
 obtain ⟨x4, hx4, h⟩ := ob h
 refine cp (typing_elementOf_ok _ _ _ hx4) okF_134 (.cons (.same _) .nil) ?_
 refine k3 _ _ ?_
 refine .q fun K4 k4 => .q fun K5 k5 => ?_
 obtain ⟨s1, hj1, h⟩ := ob h
 have hR1 : ∀ t9 h9, Le 0 t9 h9 (.unk :: (.eptr [.func 205 []] :: (.unk :: (.ptr 0 0 :: (.unk :: (.ptr 1 0 :: (.unk :: (.ptr 2 0 :: (u16 (u4 (.bool s1 :: (u4 (.unk :: []))))))))))))) [.box [.i 0, .str ([] : Str), .slice (List.map encTy ([] : List Ty)) .nils], .box [.i x2.1.kind, .str x2.1.name, sTy x2.1.kids], .box [.i x4.1.kind, .str x4.1.name, sTy x4.1.kids]] → K5 t9 h9 := by
  intro t9 h9 hw
  refine k5 _ _ (AW.le hw ?_)
  clear hw
  refine .condS rfl h (fun hc1 h => ?_) (fun hc1 h => ?_)
  ·refine .q fun K6 k6 => rg 0 ?_
   refine k6 _ _ ?_
   refine .ret ?_
   have e9 := sj h
   subst e9
   refine hQ _ _ _ (retPure τ_ok (fun g => by simp) ?_)
   conv => whnf
   try rfl
  ·refine .skip ?_
   refine k4 _ _ ?_
   refine .q fun K7 k7 => rg 0 ?_
   refine cp (typing_relation_ok 0 x2.1 x4.1 _ rfl) okF_205 (.cons (.same _) (.cons (.same _) .nil)) ?_
   refine k7 _ _ ?_
   refine .ret ?_
   have e9 := sj h
   subst e9
   refine hQ _ _ _ (retPure τ_ok (fun g => by simp) ?_)
   conv => whnf
   try rfl
 refine rg 0 ?_
 refine onB_cond hj1 (fun hc2 hj1 => ?_) (fun hc2 hj1 => ?_)
 ·cases hj1
  exact hR1 _ _ (li (.u (.s (.u (.s (.u (.s (.u (.s (.u16 (.u4 (.s (.u4 (.u .n))))))))))))))
 ·cases hj1
  exact hR1 _ _ (li (.u (.s (.u (.s (.u (.s (.u (.s (.u16 (.u4 (.s (.u4 (.u .n))))))))))))))
theorem typing_sides_ok (n : Nat) (p0 : Ty) (r : Ty × Ty × Bool) (h : typing_sides n p0 = some r) : ACalls Tryz.prog 207 [aTy p0] [] (.tup [aTy r.1, aTy r.2.1, .bool r.2.2]) [] := by
 unfold typing_sides at h
 refine acalls_start true Tryz.func207 rfl (nt Tryz.ntmps207 rfl) fun Q hQ t ht => ?_
 conv at ht => whnf
 subst ht
 refine .q fun K1 k1 => rg 3 ?_
 refine k1 _ _ ?_
 refine .q fun K2 k2 => rg 1 ?_
 obtain ⟨x1, hx1, h⟩ := ob h
 refine cp (typing_elementOf_ok _ _ _ hx1) okF_134 (.cons (.same _) .nil) ?_
 refine k2 _ _ ?_
 refine .q fun K3 k3 => .q fun K4 k4 => ?_
 obtain ⟨s1, hj1, h⟩ := ob h
 have hR1 : ∀ t9 h9, Le 0 t9 h9 (u2 (.ptr 0 0 :: (.ptr 1 0 :: (.unk :: (.ptr 2 0 :: (u8 (u2 (.unk :: (.bool s1 :: (u8 (u2 []))))))))))) [.box [.i 0, .str ([] : Str), .slice (List.map encTy ([] : List Ty)) .nils], .box [.i 0, .str ([] : Str), .slice (List.map encTy ([] : List Ty)) .nils], .box [.i x1.1.kind, .str x1.1.name, sTy x1.1.kids]] → K4 t9 h9 := by
  intro t9 h9 hw
  refine k4 _ _ (AW.le hw ?_)
  clear hw
  refine .condS rfl h (fun hc1 h => ?_) (fun hc1 h => ?_)
  ·refine .q fun K5 k5 => rg 0 ?_
   refine k5 _ _ ?_
   refine .ret ?_
   have e9 := sj h
   subst e9
   refine hQ _ _ _ (retPure τ_ok (fun g => by simp) ?_)
   conv => whnf
   try rfl
  ·refine .skip ?_
   refine k3 _ _ ?_
   refine .q fun K6 k6 => rg 0 ?_
   obtain ⟨x2, hx2, h⟩ := ob h
   refine idx_of (l := x1.1.kids) (f := encTy) (cs := [.i ((x2).kind), .str ((x2).name), sTy ((x2).kids)]) hx2 (encTy_eq x2) rfl ?_
   obtain ⟨x3, hx3, h⟩ := ob h
   refine idx_of (l := x1.1.kids) (f := encTy) (cs := [.i ((x3).kind), .str ((x3).name), sTy ((x3).kids)]) hx3 (encTy_eq x3) rfl ?_
   refine ⟨rfl, ?_⟩
   refine k6 _ _ ?_
   refine .ret ?_
   have e9 := sj h
   subst e9
   refine hQ _ _ _ (retPure τ_ok (fun g => by simp) ?_)
   conv => whnf
   try rfl
 refine rg 0 ?_
 refine onB_cond hj1 (fun hc2 hj1 => ?_) (fun hc2 hj1 => ?_)
 ·cases hj1
  exact hR1 _ _ (wk [some 1, some 2, some 3] (.u2 (.c rfl (.c rfl (.u (.c rfl (.u8 (.u2 (.u (.c rfl (.u8 (.u2 .nil))))))))))) (.b rfl (.c rfl (.c rfl (.c rfl .nil))) (.b rfl (.c rfl (.c rfl (.c rfl .nil))) (.b rfl (.c rfl (.c rfl (.e renl_Ty .nil))) .nil))) rfl)
 ·cases hj1
  exact hR1 _ _ (wk [some 1, some 2, some 3] (.u2 (.c rfl (.c rfl (.u (.c rfl (.u8 (.u2 (.u (.c rfl (.u8 (.u2 .nil))))))))))) (.b rfl (.c rfl (.c rfl (.c rfl .nil))) (.b rfl (.c rfl (.c rfl (.c rfl .nil))) (.b rfl (.c rfl (.c rfl (.e renl_Ty .nil))) .nil))) rfl)
theorem typing_rows_8_ok (n : Nat) (p0 : Ty) (p1 : Ty) (p2 : List Ty) (r : Ty × Bool) (h : typing_rows_8 n p0 p1 p2 = some r) : ACalls Tryz.prog 221 [aTy p0, aTy p1, sTy p2] [] (.tup [aTy r.1, .bool r.2]) [] := by
 unfold typing_rows_8 at h
 refine acalls_start true Tryz.func221 rfl (nt Tryz.ntmps221 rfl) fun Q hQ t ht => ?_
 conv at ht => whnf
 subst ht
 refine .q fun K1 k1 => rg 3 ?_
 refine k1 _ _ ?_
 refine .q fun K2 k2 => rg 0 ?_
 obtain ⟨x1, hx1, h⟩ := ob h
 refine idx_of (l := p2) (f := encTy) (cs := [.i ((x1).kind), .str ((x1).name), sTy ((x1).kids)]) hx1 (encTy_eq x1) rfl ?_
 obtain ⟨x2, hx2, h⟩ := ob h
 refine call_pur (typing_alike_ok _ _ _ hx2) okF_202 (.cons (.same _) .nil) (fun g => by simp) (fun g => rfl) ?_
 refine ⟨rfl, ?_⟩
 refine k2 _ _ ?_
 refine .ret ?_
 have e9 := sj h
 subst e9
 refine hQ _ _ _ (retPure τ_ok (fun g => by simp) ?_)
 conv => whnf
 try rfl
theorem typing_onRelation_1_1_ok (n : Nat) (p0 : List Ty) (r : Ty × Bool) (h : typing_onRelation_1_1 n p0 = some r) : ACalls Tryz.prog 263 [sTy p0, .eptr [.func 221 []]] [] (.tup [aTy r.1, .bool r.2]) [] := by
 unfold typing_onRelation_1_1 at h
 refine acalls_start true Tryz.func263 rfl (nt Tryz.ntmps263 rfl) fun Q hQ t ht => ?_
 conv at ht => whnf
 subst ht
 refine .q fun K1 k1 => rg 1 ?_
 refine k1 _ _ ?_
 refine .q fun K2 k2 => rg 2 ?_
 obtain ⟨x1, hx1, h⟩ := ob h
 refine idx_of (l := p0) (f := encTy) (cs := [.i ((x1).kind), .str ((x1).name), sTy ((x1).kids)]) hx1 (encTy_eq x1) rfl ?_
 obtain ⟨x2, hx2, h⟩ := ob h
 refine cp (typing_sides_ok _ _ _ hx2) okF_207 (.cons (.same _) .nil) ?_
 refine k2 _ _ ?_
 refine .q fun K3 k3 => .q fun K4 k4 => rg 0 ?_
 refine k4 _ _ ?_
 refine .condS rfl h (fun hc1 h => ?_) (fun hc1 h => ?_)
 ·refine .q fun K5 k5 => rg 0 ?_
  refine k5 _ _ ?_
  refine .ret ?_
  have e9 := sj h
  subst e9
  refine hQ _ _ _ (retPure τ_ok (fun g => by simp) ?_)
  conv => whnf
  try rfl
 ·refine .skip ?_
  refine k3 _ _ ?_
  refine .q fun K6 k6 => rg 0 ?_
  obtain ⟨x3, hx3, h⟩ := ob h
  refine cp (typing_rows_8_ok _ _ _ _ _ hx3) okF_221 (.cons (.same _) (.cons (.same _) (.cons (.same _) .nil))) ?_
  refine k6 _ _ ?_
  refine .ret ?_
  have e9 := sj h
  subst e9
  refine hQ _ _ _ (retPure τ_ok (fun g => by simp) ?_)
  conv => whnf
  try rfl
theorem typing_rows_9_ok (n : Nat) (p0 : Ty) (p1 : Ty) (p2 : List Ty) (r : Ty × Bool) (h : typing_rows_9 n p0 p1 p2 = some r) : ACalls Tryz.prog 222 [aTy p0, aTy p1, sTy p2] [] (.tup [aTy r.1, .bool r.2]) [] := by
 unfold typing_rows_9 at h
 refine acalls_start true Tryz.func222 rfl (nt Tryz.ntmps222 rfl) fun Q hQ t ht => ?_
 conv at ht => whnf
 subst ht
 refine .q fun K1 k1 => rg 3 ?_
 refine k1 _ _ ?_
 refine .q fun K2 k2 => rg 2 ?_
 obtain ⟨x1, hx1, h⟩ := ob h
 refine idx_of (l := p2) (f := encTy) (cs := [.i ((x1).kind), .str ((x1).name), sTy ((x1).kids)]) hx1 (encTy_eq x1) rfl ?_
 obtain ⟨x2, hx2, h⟩ := ob h
 refine cp (typing_sides_ok _ _ _ hx2) okF_207 (.cons (.same _) .nil) ?_
 refine k2 _ _ ?_
 refine .q fun K3 k3 => ?_
 obtain ⟨s1, hj1, h⟩ := ob h
 have hR1 : ∀ t9 h9, Le 0 t9 h9 (u4 (u2 (.ptr 0 0 :: (.bool s1 :: (u16 (u4 [])))))) [.box [.i 5, .str ([] : Str), sTy ([(Ty.mk 4 ([] : Str) ([p0, x2.2.1]))])]] → K3 t9 h9 := by
  intro t9 h9 hw
  refine k3 _ _ (AW.le hw ?_)
  clear hw
  refine .ret ?_
  have e9 := sj h
  subst e9
  refine hQ _ _ _ (retPure τ_ok (fun g => by simp) ?_)
  conv => whnf
  try rfl
 refine rg 0 ?_
 refine cp (typing_relation_ok 0 p0 x2.2.1 _ rfl) okF_205 (.cons (.same _) (.cons (.same _) .nil)) ?_
 refine onB_cond hj1 (fun hc1 hj1 => ?_) (fun hc1 hj1 => ?_)
 ·obtain ⟨x3, hx3, hj1⟩ := ob hj1
  refine call_pur (typing_equal_ok _ _ _ _ hx3) okF_93 (.cons (.same _) (.cons (.same _) .nil)) (fun g => by simp) (fun g => rfl) ?_
  cases hj1
  exact hR1 _ _ (wk [some 2] (.u4 (.u2 (.c rfl (.c rfl (.u16 (.u4 .nil)))))) (.b rfl (.c rfl (.c rfl (.e renl_Ty .nil))) .nil) rfl)
 ·cases hj1
  exact hR1 _ _ (wk [some 2] (.u4 (.u2 (.c rfl (.c rfl (.u16 (.u4 .nil)))))) (.b rfl (.c rfl (.c rfl (.e renl_Ty .nil))) .nil) rfl)
theorem typing_onRelation_1_2_ok (n : Nat) (p0 : List Ty) (r : Ty × Bool) (h : typing_onRelation_1_2 n p0 = some r) : ACalls Tryz.prog 263 [sTy p0, .eptr [.func 222 []]] [] (.tup [aTy r.1, .bool r.2]) [] := by
 unfold typing_onRelation_1_2 at h
 refine acalls_start true Tryz.func263 rfl (nt Tryz.ntmps263 rfl) fun Q hQ t ht => ?_
 conv at ht => whnf
 subst ht
 refine .q fun K1 k1 => rg 1 ?_
 refine k1 _ _ ?_
 refine .q fun K2 k2 => rg 2 ?_
 obtain ⟨x1, hx1, h⟩ := ob h
 refine idx_of (l := p0) (f := encTy) (cs := [.i ((x1).kind), .str ((x1).name), sTy ((x1).kids)]) hx1 (encTy_eq x1) rfl ?_
 obtain ⟨x2, hx2, h⟩ := ob h
 refine cp (typing_sides_ok _ _ _ hx2) okF_207 (.cons (.same _) .nil) ?_
 refine k2 _ _ ?_
 refine .q fun K3 k3 => .q fun K4 k4 => rg 0 ?_
 refine k4 _ _ ?_
 refine .condS rfl h (fun hc1 h => ?_) (fun hc1 h => ?_)
 ·refine .q fun K5 k5 => rg 0 ?_
  refine k5 _ _ ?_
  refine .ret ?_
  have e9 := sj h
  subst e9
  refine hQ _ _ _ (retPure τ_ok (fun g => by simp) ?_)
  conv => whnf
  try rfl
 ·refine .skip ?_
  refine k3 _ _ ?_
  refine .q fun K6 k6 => rg 0 ?_
  obtain ⟨x3, hx3, h⟩ := ob h
  refine cp (typing_rows_9_ok _ _ _ _ _ hx3) okF_222 (.cons (.same _) (.cons (.same _) (.cons (.same _) .nil))) ?_
  refine k6 _ _ ?_
  refine .ret ?_
  have e9 := sj h
  subst e9
  refine hQ _ _ _ (retPure τ_ok (fun g => by simp) ?_)
  conv => whnf
  try rfl
theorem typing_rows_3_ok (n : Nat) (p0 : List Ty) (r : Ty × Bool) (h : typing_rows_3 n p0 = some r) : ACalls Tryz.prog 206 [sTy p0] [] (.tup [aTy r.1, .bool r.2]) [] := by
 unfold typing_rows_3 at h
 refine acalls_start true Tryz.func206 rfl (nt Tryz.ntmps206 rfl) fun Q hQ t ht => ?_
 conv at ht => whnf
 subst ht
 refine .q fun K1 k1 => rg 1 ?_
 refine k1 _ _ ?_
 refine .q fun K2 k2 => rg 1 ?_
 obtain ⟨x1, hx1, h⟩ := ob h
 refine idx_of (l := p0) (f := encTy) (cs := [.i ((x1).kind), .str ((x1).name), sTy ((x1).kids)]) hx1 (encTy_eq x1) rfl ?_
 obtain ⟨x2, hx2, h⟩ := ob h
 refine cp (typing_elementOf_ok _ _ _ hx2) okF_134 (.cons (.same _) .nil) ?_
 refine k2 _ _ ?_
 refine .q fun K3 k3 => rg 2 ?_
 obtain ⟨x3, hx3, h⟩ := ob h
 refine idx_of (l := p0) (f := encTy) (cs := [.i ((x3).kind), .str ((x3).name), sTy ((x3).kids)]) hx3 (encTy_eq x3) rfl ?_
 obtain ⟨x4, hx4, h⟩ := ob h
 refine cp (typing_sides_ok _ _ _ hx4) okF_207 (.cons (.same _) .nil) ?_
 refine k3 _ _ ?_
 refine .q fun K4 k4 => ?_
 obtain ⟨s1, hj1, h⟩ := ob h
 have hR1 : ∀ t9 h9, Le 0 t9 h9 (u2 (.ptr 0 0 :: (.bool s1.1 :: (u32 [])))) [.box [.i s1.2.1, .str s1.2.2.1, sTy s1.2.2.2]] → K4 t9 h9 := by
  intro t9 h9 hw
  refine k4 _ _ (AW.le hw ?_)
  clear hw
  refine .ret ?_
  have e9 := sj h
  subst e9
  refine hQ _ _ _ (retPure τ_ok (fun g => by simp) ?_)
  conv => whnf
  try rfl
 refine rg 0 ?_
 obtain ⟨x5, hx5, hj1⟩ := ob hj1
 refine idx_of (l := p0) (f := encTy) (cs := [.i ((x5).kind), .str ((x5).name), sTy ((x5).kids)]) hx5 (encTy_eq x5) rfl ?_
 refine onB_cond hj1 (fun hc1 hj1 => ?_) (fun hc1 hj1 => ?_)
 ·refine onB_cond hj1 (fun hc2 hj1 => ?_) (fun hc2 hj1 => ?_)
  ·obtain ⟨x6, hx6, hj1⟩ := ob hj1
   refine call_pur (typing_equal_ok _ _ _ _ hx6) okF_93 (.cons (.same _) (.cons (.same _) .nil)) (fun g => by simp) (fun g => rfl) ?_
   refine ⟨rfl, ?_⟩
   cases hj1
   exact hR1 _ _ (wk [some 0] (.u2 (.c rfl (.c rfl (.u32 .nil)))) (.b rfl (.c rfl (.c rfl (.e renl_Ty .nil))) .nil) rfl)
  ·refine ⟨rfl, ?_⟩
   cases hj1
   exact hR1 _ _ (wk [some 0] (.u2 (.c rfl (.c rfl (.u32 .nil)))) (.b rfl (.c rfl (.c rfl (.e renl_Ty .nil))) .nil) rfl)
 ·refine ⟨rfl, ?_⟩
  cases hj1
  exact hR1 _ _ (wk [some 0] (.u2 (.c rfl (.c rfl (.u32 .nil)))) (.b rfl (.c rfl (.c rfl (.e renl_Ty .nil))) .nil) rfl)
end Abs
end Go.Proofs.YtiiaccpcoclklaaGreat
