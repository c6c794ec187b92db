/-
  Contracts of Go functions (printed). Conditions: none.
-/
import Derived.KernelRfl
import Derived.Test.YtiiaccpcoclklaaGreatCT11x87c8a1
set_option linter.unusedSimpArgs false
set_option linter.unusedVariables false
namespace Go.Proofs.YtiiaccpcoclklaaGreat
namespace Abs
open Go Go.Proofs
set_option maxRecDepth 100000
set_option maxHeartbeats 40000000
theorem UW (n : Nat) (p0 : List Ty) (r : Ty × Bool) (h : uM n p0 = some r) : ak Tryz.prog 218 [aI p0] [] (.bq [aV r.1, .bool r.2]) [] := by
 unfold uM at h
 refine ah true Tryz.func218 rfl (nt Tryz.ntmps218 rfl) fun Q hQ t ht => ?_
 conv at ht => whnf
 subst ht
 refine .q fun K1 k1 => rg 1 ?_
 refine k1 _ _ ?_
 refine .q fun K2 k2 => ?_
 obtain ⟨s1, hj1, h⟩ := ob h
 have hR1 : ∀ t9 h9, Le 0 t9 h9 (u2 (.ptr 0 0 :: (.bool s1.1 :: (u16 (u2 (.unk :: [])))))) [.box [.i 4, .str ([] : Str), aI s1.2]] → K2 t9 h9 := by
  intro t9 h9 hw
  refine k2 _ _ (AW.le hw ?_)
  clear hw
  refine .ret ?_
  have e9 := sj h
  subst e9
  refine hQ _ _ _ (aj aD (fun g => by simp) ?_)
  conv => whnf
  try rfl
 refine rg 0 ?_
 obtain ⟨x1, hx1, hj1⟩ := ob hj1
 refine aJ (l := p0) (f := aK) (cs := [.i ((x1).kind), .str ((x1).name), aI ((x1).kids)]) hx1 (aR x1) rfl ?_
 obtain ⟨x2, hx2, hj1⟩ := ob hj1
 refine aJ (l := p0) (f := aK) (cs := [.i ((x2).kind), .str ((x2).name), aI ((x2).kids)]) hx2 (aR x2) rfl ?_
 refine cp (HV 0 x1 x2 _ rfl) ahE (.cons (.same _) (.cons (.same _) .nil)) ?_
 obtain ⟨x3, hx3, hj1⟩ := ob hj1
 refine aJ (l := p0) (f := aK) (cs := [.i ((x3).kind), .str ((x3).name), aI ((x3).kids)]) hx3 (aR x3) rfl ?_
 refine aH hj1 (fun hc1 hj1 => ?_) (fun hc1 hj1 => ?_)
 ·obtain ⟨x4, hx4, hj1⟩ := ob hj1
  refine aJ (l := p0) (f := aK) (cs := [.i ((x4).kind), .str ((x4).name), aI ((x4).kids)]) hx4 (aR x4) rfl ?_
  refine ⟨rfl, ?_⟩
  cases hj1
  exact hR1 _ _ (li (.u2 (.s (.s (.u16 (.u2 (.u .n)))))))
 refine ⟨rfl, ?_⟩
 cases hj1
 exact hR1 _ _ (li (.u2 (.s (.s (.u16 (.u2 (.u .n)))))))
theorem Vx (n : Nat) (p0 : List Ty) (r : Ty × Bool) (h : uJ n p0 = some r) : ak Tryz.prog 220 [aI p0] [] (.bq [aV r.1, .bool r.2]) [] := by
 unfold uJ at h
 refine ah true Tryz.func220 rfl (nt Tryz.ntmps220 rfl) fun Q hQ t ht => ?_
 conv at ht => whnf
 subst ht
 refine .q fun K1 k1 => rg 1 ?_
 refine k1 _ _ ?_
 refine .q fun K2 k2 => rg 0 ?_
 obtain ⟨x1, hx1, h⟩ := ob h
 refine aJ (l := p0) (f := aK) (cs := [.i ((x1).kind), .str ((x1).name), aI ((x1).kids)]) hx1 (aR x1) rfl ?_
 refine cp (iR 0 x1 _ rfl) wF (.cons (.same _) .nil) ?_
 obtain ⟨x2, hx2, h⟩ := ob h
 refine au (vG _ _ _ hx2) KT (.cons (.same _) .nil) (fun g => by simp) (fun g => rfl) ?_
 refine k2 _ _ ?_
 refine .ret ?_
 have e9 := sj h
 subst e9
 refine hQ _ _ _ (aj aD (fun g => by simp) ?_)
 conv => whnf
 try rfl
theorem Hr (n : Nat) (p0 : Ty) (r : Ty) (h : NJ n p0 = some r) : ak Tryz.prog 215 [aV p0] [] (aV r) [] := by
 unfold NJ at h
 refine ah true Tryz.func215 rfl (nt Tryz.ntmps215 rfl) fun Q hQ t ht => ?_
 conv at ht => whnf
 subst ht
 refine .q fun K1 k1 => rg 2 ?_
 refine k1 _ _ ?_
 refine .q fun K2 k2 => rg 0 ?_
 refine k2 _ _ ?_
 refine .ret ?_
 have e9 := sj h
 subst e9
 refine hQ _ _ _ (aj aD (fun g => by simp) ?_)
 conv => whnf
 try rfl
theorem zq (n : Nat) (p0 : List Ty) (r : Ty × Bool) (h : jB n p0 = some r) : ak Tryz.prog 267 [aI p0, .eptr [.func 215 []]] [] (.bq [aV r.1, .bool r.2]) [] := by
 unfold jB at h
 refine ah true Tryz.func267 rfl (nt Tryz.ntmps267 rfl) fun Q hQ t ht => ?_
 conv at ht => whnf
 subst ht
 refine .q fun K1 k1 => rg 1 ?_
 refine k1 _ _ ?_
 refine .q fun K2 k2 => ?_
 obtain ⟨s1, hj1, h⟩ := ob h
 have hR1 : ∀ t9 h9, Le 0 t9 h9 (u2 (.unk :: (.ptr 0 0 :: (.bool s1.1 :: (u8 (u4 (u2 []))))))) [.box [.i s1.2.1, .str s1.2.2.1, aI s1.2.2.2]] → K2 t9 h9 := by
  intro t9 h9 hw
  refine k2 _ _ (AW.le hw ?_)
  clear hw
  refine .ret ?_
  have e9 := sj h
  subst e9
  refine hQ _ _ _ (aj aD (fun g => by simp) ?_)
  conv => whnf
  try rfl
 refine rg 0 ?_
 obtain ⟨x1, hx1, hj1⟩ := ob hj1
 refine aJ (l := p0) (f := aK) (cs := [.i ((x1).kind), .str ((x1).name), aI ((x1).kids)]) hx1 (aR x1) rfl ?_
 refine cp (Hr 0 x1 _ rfl) ah3 (.cons (.same _) .nil) ?_
 obtain ⟨x2, hx2, hj1⟩ := ob hj1
 refine aJ (l := p0) (f := aK) (cs := [.i ((x2).kind), .str ((x2).name), aI ((x2).kids)]) hx2 (aR x2) rfl ?_
 refine aH hj1 (fun hc1 hj1 => ?_) (fun hc1 hj1 => ?_)
 ·obtain ⟨x3, hx3, hj1⟩ := ob hj1
  refine au (vG _ _ _ hx3) KT (.cons (.same _) .nil) (fun g => by simp) (fun g => rfl) ?_
  refine ⟨rfl, ?_⟩
  cases hj1
  exact hR1 _ _ (li (.u2 (.u (.s (.s (.u8 (.u4 (.u2 .n))))))))
 refine ⟨rfl, ?_⟩
 cases hj1
 exact hR1 _ _ (li (.u2 (.u (.s (.s (.u8 (.u4 (.u2 .n))))))))
theorem qM (n : Nat) (p0 : Ty) (p1 : Ty) (r : Ty) (h : I9 n p0 p1 = some r) : ak Tryz.prog 205 [aV p0, aV p1] [] (aV r) [] := by
 unfold I9 at h
 refine ah true Tryz.func205 rfl (nt Tryz.ntmps205 rfl) fun Q hQ t ht => ?_
 conv at ht => whnf
 subst ht
 refine .q fun K1 k1 => rg 3 ?_
 refine k1 _ _ ?_
 refine .q fun K2 k2 => rg 0 ?_
 refine cp (HV 0 p0 p1 _ rfl) ahE (.cons (.same _) (.cons (.same _) .nil)) ?_
 refine cp (iR 0 (Ty.mk 4 ([] : Str) ([p0, p1])) _ rfl) wF (.cons (.same _) .nil) ?_
 refine k2 _ _ ?_
 refine .ret ?_
 have e9 := sj h
 subst e9
 refine hQ _ _ _ (aj aD (fun g => by simp) ?_)
 conv => whnf
 try rfl
theorem Ub (n : Nat) (p0 : List Ty) (r : Ty × Bool) (h : sZ n p0 = some r) : ak Tryz.prog 262 [aI p0, .eptr [.func 205 []]] [] (.bq [aV r.1, .bool r.2]) [] := by
 unfold sZ at h
 refine ah true Tryz.func262 rfl (nt Tryz.ntmps262 rfl) fun Q hQ t ht => ?_
 conv at ht => whnf
 subst ht
 refine .q fun K1 k1 => rg 1 ?_
 refine k1 _ _ ?_
 refine .q fun K2 k2 => rg 1 ?_
 obtain ⟨x1, hx1, h⟩ := ob h
 refine aJ (l := p0) (f := aK) (cs := [.i ((x1).kind), .str ((x1).name), aI ((x1).kids)]) hx1 (aR x1) rfl ?_
 obtain ⟨x2, hx2, h⟩ := ob h
 refine cp (eB _ _ _ hx2) ru (.cons (.same _) .nil) ?_
 refine k2 _ _ ?_
 refine .q fun K3 k3 => rg 1 ?_
 obtain ⟨x3, hx3, h⟩ := ob h
 refine aJ (l := p0) (f := aK) (cs := [.i ((x3).kind), .str ((x3).name), aI ((x3).kids)]) hx3 (aR x3) rfl ?_
 obtain ⟨x4, hx4, h⟩ := ob h
 refine cp (eB _ _ _ hx4) ru (.cons (.same _) .nil) ?_
 refine k3 _ _ ?_
 refine .q fun K4 k4 => .q fun K5 k5 => ?_
 obtain ⟨s1, hj1, h⟩ := ob h
 have hR1 : ∀ t9 h9, Le 0 t9 h9 (.unk :: (.eptr [.func 205 []] :: (.unk :: (.ptr 0 0 :: (.unk :: (.ptr 1 0 :: (.unk :: (.ptr 2 0 :: (u16 (u4 (.bool s1 :: (u4 (.unk :: []))))))))))))) [.box [.i 0, .str ([] : Str), .slice (List.map aK ([] : List Ty)) .nils], .box [.i x2.1.kind, .str x2.1.name, aI x2.1.kids], .box [.i x4.1.kind, .str x4.1.name, aI x4.1.kids]] → K5 t9 h9 := by
  intro t9 h9 hw
  refine k5 _ _ (AW.le hw ?_)
  clear hw
  refine .aC rfl h (fun hc1 h => ?_) (fun hc1 h => ?_)
  ·refine .q fun K6 k6 => rg 0 ?_
   refine k6 _ _ ?_
   refine .ret ?_
   have e9 := sj h
   subst e9
   refine hQ _ _ _ (aj aD (fun g => by simp) ?_)
   conv => whnf
   try rfl
  refine .skip ?_
  refine k4 _ _ ?_
  refine .q fun K7 k7 => rg 0 ?_
  refine cp (qM 0 x2.1 x4.1 _ rfl) KA (.cons (.same _) (.cons (.same _) .nil)) ?_
  refine k7 _ _ ?_
  refine .ret ?_
  have e9 := sj h
  subst e9
  refine hQ _ _ _ (aj aD (fun g => by simp) ?_)
  conv => whnf
  try rfl
 refine rg 0 ?_
 refine aH hj1 (fun hc2 hj1 => ?_) (fun hc2 hj1 => ?_)
 ·cases hj1
  exact hR1 _ _ (li (.u (.s (.u (.s (.u (.s (.u (.s (.u16 (.u4 (.s (.u4 (.u .n))))))))))))))
 cases hj1
 exact hR1 _ _ (li (.u (.s (.u (.s (.u (.s (.u (.s (.u16 (.u4 (.s (.u4 (.u .n))))))))))))))
theorem jF (n : Nat) (p0 : Ty) (r : Ty × Ty × Bool) (h : iV n p0 = some r) : ak Tryz.prog 207 [aV p0] [] (.bq [aV r.1, aV r.2.1, .bool r.2.2]) [] := by
 unfold iV at h
 refine ah true Tryz.func207 rfl (nt Tryz.ntmps207 rfl) fun Q hQ t ht => ?_
 conv at ht => whnf
 subst ht
 refine .q fun K1 k1 => rg 3 ?_
 refine k1 _ _ ?_
 refine .q fun K2 k2 => rg 1 ?_
 obtain ⟨x1, hx1, h⟩ := ob h
 refine cp (eB _ _ _ hx1) ru (.cons (.same _) .nil) ?_
 refine k2 _ _ ?_
 refine .q fun K3 k3 => .q fun K4 k4 => ?_
 obtain ⟨s1, hj1, h⟩ := ob h
 have hR1 : ∀ t9 h9, Le 0 t9 h9 (u2 (.ptr 0 0 :: (.ptr 1 0 :: (.unk :: (.ptr 2 0 :: (u8 (u2 (.unk :: (.bool s1 :: (u8 (u2 []))))))))))) [.box [.i 0, .str ([] : Str), .slice (List.map aK ([] : List Ty)) .nils], .box [.i 0, .str ([] : Str), .slice (List.map aK ([] : List Ty)) .nils], .box [.i x1.1.kind, .str x1.1.name, aI x1.1.kids]] → K4 t9 h9 := by
  intro t9 h9 hw
  refine k4 _ _ (AW.le hw ?_)
  clear hw
  refine .aC rfl h (fun hc1 h => ?_) (fun hc1 h => ?_)
  ·refine .q fun K5 k5 => rg 0 ?_
   refine k5 _ _ ?_
   refine .ret ?_
   have e9 := sj h
   subst e9
   refine hQ _ _ _ (aj aD (fun g => by simp) ?_)
   conv => whnf
   try rfl
  refine .skip ?_
  refine k3 _ _ ?_
  refine .q fun K6 k6 => rg 0 ?_
  obtain ⟨x2, hx2, h⟩ := ob h
  refine aJ (l := x1.1.kids) (f := aK) (cs := [.i ((x2).kind), .str ((x2).name), aI ((x2).kids)]) hx2 (aR x2) rfl ?_
  obtain ⟨x3, hx3, h⟩ := ob h
  refine aJ (l := x1.1.kids) (f := aK) (cs := [.i ((x3).kind), .str ((x3).name), aI ((x3).kids)]) hx3 (aR x3) rfl ?_
  refine ⟨rfl, ?_⟩
  refine k6 _ _ ?_
  refine .ret ?_
  have e9 := sj h
  subst e9
  refine hQ _ _ _ (aj aD (fun g => by simp) ?_)
  conv => whnf
  try rfl
 refine rg 0 ?_
 refine aH hj1 (fun hc2 hj1 => ?_) (fun hc2 hj1 => ?_)
 ·cases hj1
  exact hR1 _ _ (wk [some 1, some 2, some 3] (.u2 (.c rfl (.c rfl (.u (.c rfl (.u8 (.u2 (.u (.c rfl (.u8 (.u2 .nil))))))))))) (.b rfl (.c rfl (.c rfl (.c rfl .nil))) (.b rfl (.c rfl (.c rfl (.c rfl .nil))) (.b rfl (.c rfl (.c rfl (.e aB .nil))) .nil))) rfl)
 cases hj1
 exact hR1 _ _ (wk [some 1, some 2, some 3] (.u2 (.c rfl (.c rfl (.u (.c rfl (.u8 (.u2 (.u (.c rfl (.u8 (.u2 .nil))))))))))) (.b rfl (.c rfl (.c rfl (.c rfl .nil))) (.b rfl (.c rfl (.c rfl (.c rfl .nil))) (.b rfl (.c rfl (.c rfl (.e aB .nil))) .nil))) rfl)
theorem VE (n : Nat) (p0 : Ty) (p1 : Ty) (p2 : List Ty) (r : Ty × Bool) (h : FR n p0 p1 p2 = some r) : ak Tryz.prog 221 [aV p0, aV p1, aI p2] [] (.bq [aV r.1, .bool r.2]) [] := by
 unfold FR at h
 refine ah true Tryz.func221 rfl (nt Tryz.ntmps221 rfl) fun Q hQ t ht => ?_
 conv at ht => whnf
 subst ht
 refine .q fun K1 k1 => rg 3 ?_
 refine k1 _ _ ?_
 refine .q fun K2 k2 => rg 0 ?_
 obtain ⟨x1, hx1, h⟩ := ob h
 refine aJ (l := p2) (f := aK) (cs := [.i ((x1).kind), .str ((x1).name), aI ((x1).kids)]) hx1 (aR x1) rfl ?_
 obtain ⟨x2, hx2, h⟩ := ob h
 refine au (vG _ _ _ hx2) KT (.cons (.same _) .nil) (fun g => by simp) (fun g => rfl) ?_
 refine ⟨rfl, ?_⟩
 refine k2 _ _ ?_
 refine .ret ?_
 have e9 := sj h
 subst e9
 refine hQ _ _ _ (aj aD (fun g => by simp) ?_)
 conv => whnf
 try rfl
theorem IK (n : Nat) (p0 : List Ty) (r : Ty × Bool) (h : kW n p0 = some r) : ak Tryz.prog 263 [aI p0, .eptr [.func 221 []]] [] (.bq [aV r.1, .bool r.2]) [] := by
 unfold kW at h
 refine ah true Tryz.func263 rfl (nt Tryz.ntmps263 rfl) fun Q hQ t ht => ?_
 conv at ht => whnf
 subst ht
 refine .q fun K1 k1 => rg 1 ?_
 refine k1 _ _ ?_
 refine .q fun K2 k2 => rg 2 ?_
 obtain ⟨x1, hx1, h⟩ := ob h
 refine aJ (l := p0) (f := aK) (cs := [.i ((x1).kind), .str ((x1).name), aI ((x1).kids)]) hx1 (aR x1) rfl ?_
 obtain ⟨x2, hx2, h⟩ := ob h
 refine cp (jF _ _ _ hx2) yZ (.cons (.same _) .nil) ?_
 refine k2 _ _ ?_
 refine .q fun K3 k3 => .q fun K4 k4 => rg 0 ?_
 refine k4 _ _ ?_
 refine .aC rfl h (fun hc1 h => ?_) (fun hc1 h => ?_)
 ·refine .q fun K5 k5 => rg 0 ?_
  refine k5 _ _ ?_
  refine .ret ?_
  have e9 := sj h
  subst e9
  refine hQ _ _ _ (aj aD (fun g => by simp) ?_)
  conv => whnf
  try rfl
 refine .skip ?_
 refine k3 _ _ ?_
 refine .q fun K6 k6 => rg 0 ?_
 obtain ⟨x3, hx3, h⟩ := ob h
 refine cp (VE _ _ _ _ _ hx3) ao6 (.cons (.same _) (.cons (.same _) (.cons (.same _) .nil))) ?_
 refine k6 _ _ ?_
 refine .ret ?_
 have e9 := sj h
 subst e9
 refine hQ _ _ _ (aj aD (fun g => by simp) ?_)
 conv => whnf
 try rfl
theorem V6 (n : Nat) (p0 : Ty) (p1 : Ty) (p2 : List Ty) (r : Ty × Bool) (h : BP n p0 p1 p2 = some r) : ak Tryz.prog 222 [aV p0, aV p1, aI p2] [] (.bq [aV r.1, .bool r.2]) [] := by
 unfold BP at h
 refine ah true Tryz.func222 rfl (nt Tryz.ntmps222 rfl) fun Q hQ t ht => ?_
 conv at ht => whnf
 subst ht
 refine .q fun K1 k1 => rg 3 ?_
 refine k1 _ _ ?_
 refine .q fun K2 k2 => rg 2 ?_
 obtain ⟨x1, hx1, h⟩ := ob h
 refine aJ (l := p2) (f := aK) (cs := [.i ((x1).kind), .str ((x1).name), aI ((x1).kids)]) hx1 (aR x1) rfl ?_
 obtain ⟨x2, hx2, h⟩ := ob h
 refine cp (jF _ _ _ hx2) yZ (.cons (.same _) .nil) ?_
 refine k2 _ _ ?_
 refine .q fun K3 k3 => ?_
 obtain ⟨s1, hj1, h⟩ := ob h
 have hR1 : ∀ t9 h9, Le 0 t9 h9 (u4 (u2 (.ptr 0 0 :: (.bool s1 :: (u16 (u4 [])))))) [.box [.i 5, .str ([] : Str), aI ([(Ty.mk 4 ([] : Str) ([p0, x2.2.1]))])]] → K3 t9 h9 := by
  intro t9 h9 hw
  refine k3 _ _ (AW.le hw ?_)
  clear hw
  refine .ret ?_
  have e9 := sj h
  subst e9
  refine hQ _ _ _ (aj aD (fun g => by simp) ?_)
  conv => whnf
  try rfl
 refine rg 0 ?_
 refine cp (qM 0 p0 x2.2.1 _ rfl) KA (.cons (.same _) (.cons (.same _) .nil)) ?_
 refine aH hj1 (fun hc1 hj1 => ?_) (fun hc1 hj1 => ?_)
 ·obtain ⟨x3, hx3, hj1⟩ := ob hj1
  refine au (kN _ _ _ _ hx3) Bq (.cons (.same _) (.cons (.same _) .nil)) (fun g => by simp) (fun g => rfl) ?_
  cases hj1
  exact hR1 _ _ (wk [some 2] (.u4 (.u2 (.c rfl (.c rfl (.u16 (.u4 .nil)))))) (.b rfl (.c rfl (.c rfl (.e aB .nil))) .nil) rfl)
 cases hj1
 exact hR1 _ _ (wk [some 2] (.u4 (.u2 (.c rfl (.c rfl (.u16 (.u4 .nil)))))) (.b rfl (.c rfl (.c rfl (.e aB .nil))) .nil) rfl)
theorem Ih (n : Nat) (p0 : List Ty) (r : Ty × Bool) (h : kU n p0 = some r) : ak Tryz.prog 263 [aI p0, .eptr [.func 222 []]] [] (.bq [aV r.1, .bool r.2]) [] := by
 unfold kU at h
 refine ah true Tryz.func263 rfl (nt Tryz.ntmps263 rfl) fun Q hQ t ht => ?_
 conv at ht => whnf
 subst ht
 refine .q fun K1 k1 => rg 1 ?_
 refine k1 _ _ ?_
 refine .q fun K2 k2 => rg 2 ?_
 obtain ⟨x1, hx1, h⟩ := ob h
 refine aJ (l := p0) (f := aK) (cs := [.i ((x1).kind), .str ((x1).name), aI ((x1).kids)]) hx1 (aR x1) rfl ?_
 obtain ⟨x2, hx2, h⟩ := ob h
 refine cp (jF _ _ _ hx2) yZ (.cons (.same _) .nil) ?_
 refine k2 _ _ ?_
 refine .q fun K3 k3 => .q fun K4 k4 => rg 0 ?_
 refine k4 _ _ ?_
 refine .aC rfl h (fun hc1 h => ?_) (fun hc1 h => ?_)
 ·refine .q fun K5 k5 => rg 0 ?_
  refine k5 _ _ ?_
  refine .ret ?_
  have e9 := sj h
  subst e9
  refine hQ _ _ _ (aj aD (fun g => by simp) ?_)
  conv => whnf
  try rfl
 refine .skip ?_
 refine k3 _ _ ?_
 refine .q fun K6 k6 => rg 0 ?_
 obtain ⟨x3, hx3, h⟩ := ob h
 refine cp (V6 _ _ _ _ _ hx3) aps (.cons (.same _) (.cons (.same _) (.cons (.same _) .nil))) ?_
 refine k6 _ _ ?_
 refine .ret ?_
 have e9 := sj h
 subst e9
 refine hQ _ _ _ (aj aD (fun g => by simp) ?_)
 conv => whnf
 try rfl
theorem Iu (n : Nat) (p0 : List Ty) (r : Ty × Bool) (h : pF n p0 = some r) : ak Tryz.prog 206 [aI p0] [] (.bq [aV r.1, .bool r.2]) [] := by
 unfold pF at h
 refine ah true Tryz.func206 rfl (nt Tryz.ntmps206 rfl) fun Q hQ t ht => ?_
 conv at ht => whnf
 subst ht
 refine .q fun K1 k1 => rg 1 ?_
 refine k1 _ _ ?_
 refine .q fun K2 k2 => rg 1 ?_
 obtain ⟨x1, hx1, h⟩ := ob h
 refine aJ (l := p0) (f := aK) (cs := [.i ((x1).kind), .str ((x1).name), aI ((x1).kids)]) hx1 (aR x1) rfl ?_
 obtain ⟨x2, hx2, h⟩ := ob h
 refine cp (eB _ _ _ hx2) ru (.cons (.same _) .nil) ?_
 refine k2 _ _ ?_
 refine .q fun K3 k3 => rg 2 ?_
 obtain ⟨x3, hx3, h⟩ := ob h
 refine aJ (l := p0) (f := aK) (cs := [.i ((x3).kind), .str ((x3).name), aI ((x3).kids)]) hx3 (aR x3) rfl ?_
 obtain ⟨x4, hx4, h⟩ := ob h
 refine cp (jF _ _ _ hx4) yZ (.cons (.same _) .nil) ?_
 refine k3 _ _ ?_
 refine .q fun K4 k4 => ?_
 obtain ⟨s1, hj1, h⟩ := ob h
 have hR1 : ∀ t9 h9, Le 0 t9 h9 (u2 (.ptr 0 0 :: (.bool s1.1 :: (u32 [])))) [.box [.i s1.2.1, .str s1.2.2.1, aI s1.2.2.2]] → K4 t9 h9 := by
  intro t9 h9 hw
  refine k4 _ _ (AW.le hw ?_)
  clear hw
  refine .ret ?_
  have e9 := sj h
  subst e9
  refine hQ _ _ _ (aj aD (fun g => by simp) ?_)
  conv => whnf
  try rfl
 refine rg 0 ?_
 obtain ⟨x5, hx5, hj1⟩ := ob hj1
 refine aJ (l := p0) (f := aK) (cs := [.i ((x5).kind), .str ((x5).name), aI ((x5).kids)]) hx5 (aR x5) rfl ?_
 refine aH hj1 (fun hc1 hj1 => ?_) (fun hc1 hj1 => ?_)
 ·refine aH hj1 (fun hc2 hj1 => ?_) (fun hc2 hj1 => ?_)
  ·obtain ⟨x6, hx6, hj1⟩ := ob hj1
   refine au (kN _ _ _ _ hx6) Bq (.cons (.same _) (.cons (.same _) .nil)) (fun g => by simp) (fun g => rfl) ?_
   refine ⟨rfl, ?_⟩
   cases hj1
   exact hR1 _ _ (wk [some 0] (.u2 (.c rfl (.c rfl (.u32 .nil)))) (.b rfl (.c rfl (.c rfl (.e aB .nil))) .nil) rfl)
  refine ⟨rfl, ?_⟩
  cases hj1
  exact hR1 _ _ (wk [some 0] (.u2 (.c rfl (.c rfl (.u32 .nil)))) (.b rfl (.c rfl (.c rfl (.e aB .nil))) .nil) rfl)
 refine ⟨rfl, ?_⟩
 cases hj1
 exact hR1 _ _ (wk [some 0] (.u2 (.c rfl (.c rfl (.u32 .nil)))) (.b rfl (.c rfl (.c rfl (.e aB .nil))) .nil) rfl)
end Abs
end Go.Proofs.YtiiaccpcoclklaaGreat
