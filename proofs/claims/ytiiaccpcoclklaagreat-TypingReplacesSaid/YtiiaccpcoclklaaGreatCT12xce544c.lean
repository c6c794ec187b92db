/-
  Contracts of Go functions (printed). Conditions: none.
-/
import Derived.KernelRfl
import Derived.Test.YtiiaccpcoclklaaGreatCAbs38x04b7ad
import Derived.Test.YtiiaccpcoclklaaGreatCDfxa6bced
import Derived.Test.YtiiaccpcoclklaaGreatCTDx83fdfc
import Derived.Test.YtiiaccpcoclklaaGreatCT6x41f4a7
import Derived.Test.YtiiaccpcoclklaaGreatCT9xac54ee
import Derived.Test.YtiiaccpcoclklaaGreatCT11x837867
set_option linter.unusedSimpArgs false
set_option linter.unusedVariables false
namespace Go.Proofs.YtiiaccpcoclklaaGreat
namespace Abs
open Go Go.Proofs
set_option maxRecDepth 100000
set_option maxHeartbeats 40000000
theorem RD (n : Nat) (p0 : List Ty) (r : Ty × Bool) (h : rZ n p0 = some r) : aA Tryz.prog 218 [aH p0] [] (.aZ [aU r.1, .bool r.2]) [] := by
 unfold rZ at h
 refine ah true Tryz.func218 rfl (nt Tryz.ntmps218 rfl) fun Q hQ t ht => ?_
 conv at ht => whnf
 subst ht
 refine .q fun K1 k1 => rg 1 ?_
 refine k1 _ _ ?_
 refine .q fun K2 k2 => ?_
 obtain ⟨s1, hj1, h⟩ := ob h
 have hR1 : ∀ t9 h9, Le 0 t9 h9 (u2 (.ptr 0 0 :: (.bool s1.1 :: (u16 (u2 (.unk :: [])))))) [.box [.i 4, .str ([] : Str), aH s1.2]] → K2 t9 h9 := by
  intro t9 h9 hw
  refine k2 _ _ (AW.le hw ?_)
  clear hw
  refine .ret ?_
  have e9 := sj h
  subst e9
  refine hQ _ _ _ (aj aC (fun g => by simp) ?_)
  conv => whnf
  try rfl
 refine rg 0 ?_
 obtain ⟨x1, hx1, hj1⟩ := ob hj1
 refine aI (l := p0) (f := aF) (cs := [.i ((x1).kind), .str ((x1).name), aH ((x1).kids)]) hx1 (aL x1) rfl ?_
 obtain ⟨x2, hx2, hj1⟩ := ob hj1
 refine aI (l := p0) (f := aF) (cs := [.i ((x2).kind), .str ((x2).name), aH ((x2).kids)]) hx2 (aL x2) rfl ?_
 refine cp (EX 0 x1 x2 _ rfl) aej (.cons (.same _) (.cons (.same _) .nil)) ?_
 obtain ⟨x3, hx3, hj1⟩ := ob hj1
 refine aI (l := p0) (f := aF) (cs := [.i ((x3).kind), .str ((x3).name), aH ((x3).kids)]) hx3 (aL x3) rfl ?_
 refine aG hj1 (fun hc1 hj1 => ?_) (fun hc1 hj1 => ?_)
 ·obtain ⟨x4, hx4, hj1⟩ := ob hj1
  refine aI (l := p0) (f := aF) (cs := [.i ((x4).kind), .str ((x4).name), aH ((x4).kids)]) hx4 (aL x4) rfl ?_
  refine ⟨rfl, ?_⟩
  cases hj1
  exact hR1 _ _ (li (.u2 (.s (.s (.u16 (.u2 (.u .n)))))))
 refine ⟨rfl, ?_⟩
 cases hj1
 exact hR1 _ _ (li (.u2 (.s (.s (.u16 (.u2 (.u .n)))))))
theorem Te (n : Nat) (p0 : List Ty) (r : Ty × Bool) (h : sG n p0 = some r) : aA Tryz.prog 220 [aH p0] [] (.aZ [aU r.1, .bool r.2]) [] := by
 unfold sG at h
 refine ah true Tryz.func220 rfl (nt Tryz.ntmps220 rfl) fun Q hQ t ht => ?_
 conv at ht => whnf
 subst ht
 refine .q fun K1 k1 => rg 1 ?_
 refine k1 _ _ ?_
 refine .q fun K2 k2 => rg 0 ?_
 obtain ⟨x1, hx1, h⟩ := ob h
 refine aI (l := p0) (f := aF) (cs := [.i ((x1).kind), .str ((x1).name), aH ((x1).kids)]) hx1 (aL x1) rfl ?_
 refine cp (iD 0 x1 _ rfl) uW (.cons (.same _) .nil) ?_
 obtain ⟨x2, hx2, h⟩ := ob h
 refine ak (tq _ _ _ hx2) Jj (.cons (.same _) .nil) (fun g => by simp) (fun g => rfl) ?_
 refine k2 _ _ ?_
 refine .ret ?_
 have e9 := sj h
 subst e9
 refine hQ _ _ _ (aj aC (fun g => by simp) ?_)
 conv => whnf
 try rfl
theorem Fj (n : Nat) (p0 : Ty) (r : Ty) (h : KZ n p0 = some r) : aA Tryz.prog 215 [aU p0] [] (aU r) [] := by
 unfold KZ at h
 refine ah true Tryz.func215 rfl (nt Tryz.ntmps215 rfl) fun Q hQ t ht => ?_
 conv at ht => whnf
 subst ht
 refine .q fun K1 k1 => rg 2 ?_
 refine k1 _ _ ?_
 refine .q fun K2 k2 => rg 0 ?_
 refine k2 _ _ ?_
 refine .ret ?_
 have e9 := sj h
 subst e9
 refine hQ _ _ _ (aj aC (fun g => by simp) ?_)
 conv => whnf
 try rfl
theorem xP (n : Nat) (p0 : List Ty) (r : Ty × Bool) (h : iV n p0 = some r) : aA Tryz.prog 267 [aH p0, .eptr [.func 215 []]] [] (.aZ [aU r.1, .bool r.2]) [] := by
 unfold iV at h
 refine ah true Tryz.func267 rfl (nt Tryz.ntmps267 rfl) fun Q hQ t ht => ?_
 conv at ht => whnf
 subst ht
 refine .q fun K1 k1 => rg 1 ?_
 refine k1 _ _ ?_
 refine .q fun K2 k2 => ?_
 obtain ⟨s1, hj1, h⟩ := ob h
 have hR1 : ∀ t9 h9, Le 0 t9 h9 (u2 (.unk :: (.ptr 0 0 :: (.bool s1.1 :: (u8 (u4 (u2 []))))))) [.box [.i s1.2.1, .str s1.2.2.1, aH s1.2.2.2]] → K2 t9 h9 := by
  intro t9 h9 hw
  refine k2 _ _ (AW.le hw ?_)
  clear hw
  refine .ret ?_
  have e9 := sj h
  subst e9
  refine hQ _ _ _ (aj aC (fun g => by simp) ?_)
  conv => whnf
  try rfl
 refine rg 0 ?_
 obtain ⟨x1, hx1, hj1⟩ := ob hj1
 refine aI (l := p0) (f := aF) (cs := [.i ((x1).kind), .str ((x1).name), aH ((x1).kids)]) hx1 (aL x1) rfl ?_
 refine cp (Fj 0 x1 _ rfl) aeA (.cons (.same _) .nil) ?_
 obtain ⟨x2, hx2, hj1⟩ := ob hj1
 refine aI (l := p0) (f := aF) (cs := [.i ((x2).kind), .str ((x2).name), aH ((x2).kids)]) hx2 (aL x2) rfl ?_
 refine aG hj1 (fun hc1 hj1 => ?_) (fun hc1 hj1 => ?_)
 ·obtain ⟨x3, hx3, hj1⟩ := ob hj1
  refine ak (tq _ _ _ hx3) Jj (.cons (.same _) .nil) (fun g => by simp) (fun g => rfl) ?_
  refine ⟨rfl, ?_⟩
  cases hj1
  exact hR1 _ _ (li (.u2 (.u (.s (.s (.u8 (.u4 (.u2 .n))))))))
 refine ⟨rfl, ?_⟩
 cases hj1
 exact hR1 _ _ (li (.u2 (.u (.s (.s (.u8 (.u4 (.u2 .n))))))))
theorem o7 (n : Nat) (p0 : Ty) (p1 : Ty) (r : Ty) (h : Gg n p0 p1 = some r) : aA Tryz.prog 205 [aU p0, aU p1] [] (aU r) [] := by
 unfold Gg at h
 refine ah true Tryz.func205 rfl (nt Tryz.ntmps205 rfl) fun Q hQ t ht => ?_
 conv at ht => whnf
 subst ht
 refine .q fun K1 k1 => rg 3 ?_
 refine k1 _ _ ?_
 refine .q fun K2 k2 => rg 0 ?_
 refine cp (EX 0 p0 p1 _ rfl) aej (.cons (.same _) (.cons (.same _) .nil)) ?_
 refine cp (iD 0 (Ty.mk 4 ([] : Str) ([p0, p1])) _ rfl) uW (.cons (.same _) .nil) ?_
 refine k2 _ _ ?_
 refine .ret ?_
 have e9 := sj h
 subst e9
 refine hQ _ _ _ (aj aC (fun g => by simp) ?_)
 conv => whnf
 try rfl
theorem PX (n : Nat) (p0 : List Ty) (r : Ty × Bool) (h : qU n p0 = some r) : aA Tryz.prog 262 [aH p0, .eptr [.func 205 []]] [] (.aZ [aU r.1, .bool r.2]) [] := by
 unfold qU at h
 refine ah true Tryz.func262 rfl (nt Tryz.ntmps262 rfl) fun Q hQ t ht => ?_
 conv at ht => whnf
 subst ht
 refine .q fun K1 k1 => rg 1 ?_
 refine k1 _ _ ?_
 refine .q fun K2 k2 => rg 1 ?_
 obtain ⟨x1, hx1, h⟩ := ob h
 refine aI (l := p0) (f := aF) (cs := [.i ((x1).kind), .str ((x1).name), aH ((x1).kids)]) hx1 (aL x1) rfl ?_
 obtain ⟨x2, hx2, h⟩ := ob h
 refine cp (dM _ _ _ hx2) pQ (.cons (.same _) .nil) ?_
 refine k2 _ _ ?_
 refine .q fun K3 k3 => rg 1 ?_
 obtain ⟨x3, hx3, h⟩ := ob h
 refine aI (l := p0) (f := aF) (cs := [.i ((x3).kind), .str ((x3).name), aH ((x3).kids)]) hx3 (aL x3) rfl ?_
 obtain ⟨x4, hx4, h⟩ := ob h
 refine cp (dM _ _ _ hx4) pQ (.cons (.same _) .nil) ?_
 refine k3 _ _ ?_
 refine .q fun K4 k4 => .q fun K5 k5 => ?_
 obtain ⟨s1, hj1, h⟩ := ob h
 have hR1 : ∀ t9 h9, Le 0 t9 h9 (.unk :: (.eptr [.func 205 []] :: (.unk :: (.ptr 0 0 :: (.unk :: (.ptr 1 0 :: (.unk :: (.ptr 2 0 :: (u16 (u4 (.bool s1 :: (u4 (.unk :: []))))))))))))) [.box [.i 0, .str ([] : Str), .slice (List.map aF ([] : List Ty)) .nils], .box [.i x2.1.kind, .str x2.1.name, aH x2.1.kids], .box [.i x4.1.kind, .str x4.1.name, aH x4.1.kids]] → K5 t9 h9 := by
  intro t9 h9 hw
  refine k5 _ _ (AW.le hw ?_)
  clear hw
  refine .aB rfl h (fun hc1 h => ?_) (fun hc1 h => ?_)
  ·refine .q fun K6 k6 => rg 0 ?_
   refine k6 _ _ ?_
   refine .ret ?_
   have e9 := sj h
   subst e9
   refine hQ _ _ _ (aj aC (fun g => by simp) ?_)
   conv => whnf
   try rfl
  refine .skip ?_
  refine k4 _ _ ?_
  refine .q fun K7 k7 => rg 0 ?_
  refine cp (o7 0 x2.1 x4.1 _ rfl) Iw (.cons (.same _) (.cons (.same _) .nil)) ?_
  refine k7 _ _ ?_
  refine .ret ?_
  have e9 := sj h
  subst e9
  refine hQ _ _ _ (aj aC (fun g => by simp) ?_)
  conv => whnf
  try rfl
 refine rg 0 ?_
 refine aG hj1 (fun hc2 hj1 => ?_) (fun hc2 hj1 => ?_)
 ·cases hj1
  exact hR1 _ _ (li (.u (.s (.u (.s (.u (.s (.u (.s (.u16 (.u4 (.s (.u4 (.u .n))))))))))))))
 cases hj1
 exact hR1 _ _ (li (.u (.s (.u (.s (.u (.s (.u (.s (.u16 (.u4 (.s (.u4 (.u .n))))))))))))))
theorem iZ (n : Nat) (p0 : Ty) (r : Ty × Ty × Bool) (h : iA n p0 = some r) : aA Tryz.prog 207 [aU p0] [] (.aZ [aU r.1, aU r.2.1, .bool r.2.2]) [] := by
 unfold iA at h
 refine ah true Tryz.func207 rfl (nt Tryz.ntmps207 rfl) fun Q hQ t ht => ?_
 conv at ht => whnf
 subst ht
 refine .q fun K1 k1 => rg 3 ?_
 refine k1 _ _ ?_
 refine .q fun K2 k2 => rg 1 ?_
 obtain ⟨x1, hx1, h⟩ := ob h
 refine cp (dM _ _ _ hx1) pQ (.cons (.same _) .nil) ?_
 refine k2 _ _ ?_
 refine .q fun K3 k3 => .q fun K4 k4 => ?_
 obtain ⟨s1, hj1, h⟩ := ob h
 have hR1 : ∀ t9 h9, Le 0 t9 h9 (u2 (.ptr 0 0 :: (.ptr 1 0 :: (.unk :: (.ptr 2 0 :: (u8 (u2 (.unk :: (.bool s1 :: (u8 (u2 []))))))))))) [.box [.i 0, .str ([] : Str), .slice (List.map aF ([] : List Ty)) .nils], .box [.i 0, .str ([] : Str), .slice (List.map aF ([] : List Ty)) .nils], .box [.i x1.1.kind, .str x1.1.name, aH x1.1.kids]] → K4 t9 h9 := by
  intro t9 h9 hw
  refine k4 _ _ (AW.le hw ?_)
  clear hw
  refine .aB rfl h (fun hc1 h => ?_) (fun hc1 h => ?_)
  ·refine .q fun K5 k5 => rg 0 ?_
   refine k5 _ _ ?_
   refine .ret ?_
   have e9 := sj h
   subst e9
   refine hQ _ _ _ (aj aC (fun g => by simp) ?_)
   conv => whnf
   try rfl
  refine .skip ?_
  refine k3 _ _ ?_
  refine .q fun K6 k6 => rg 0 ?_
  obtain ⟨x2, hx2, h⟩ := ob h
  refine aI (l := x1.1.kids) (f := aF) (cs := [.i ((x2).kind), .str ((x2).name), aH ((x2).kids)]) hx2 (aL x2) rfl ?_
  obtain ⟨x3, hx3, h⟩ := ob h
  refine aI (l := x1.1.kids) (f := aF) (cs := [.i ((x3).kind), .str ((x3).name), aH ((x3).kids)]) hx3 (aL x3) rfl ?_
  refine ⟨rfl, ?_⟩
  refine k6 _ _ ?_
  refine .ret ?_
  have e9 := sj h
  subst e9
  refine hQ _ _ _ (aj aC (fun g => by simp) ?_)
  conv => whnf
  try rfl
 refine rg 0 ?_
 refine aG hj1 (fun hc2 hj1 => ?_) (fun hc2 hj1 => ?_)
 ·cases hj1
  exact hR1 _ _ (wk [some 1, some 2, some 3] (.u2 (.c rfl (.c rfl (.u (.c rfl (.u8 (.u2 (.u (.c rfl (.u8 (.u2 .nil))))))))))) (.b rfl (.c rfl (.c rfl (.c rfl .nil))) (.b rfl (.c rfl (.c rfl (.c rfl .nil))) (.b rfl (.c rfl (.c rfl (.e aD .nil))) .nil))) rfl)
 cases hj1
 exact hR1 _ _ (wk [some 1, some 2, some 3] (.u2 (.c rfl (.c rfl (.u (.c rfl (.u8 (.u2 (.u (.c rfl (.u8 (.u2 .nil))))))))))) (.b rfl (.c rfl (.c rfl (.c rfl .nil))) (.b rfl (.c rfl (.c rfl (.c rfl .nil))) (.b rfl (.c rfl (.c rfl (.e aD .nil))) .nil))) rfl)
theorem SK (n : Nat) (p0 : Ty) (p1 : Ty) (p2 : List Ty) (r : Ty × Bool) (h : Dr n p0 p1 p2 = some r) : aA Tryz.prog 221 [aU p0, aU p1, aH p2] [] (.aZ [aU r.1, .bool r.2]) [] := by
 unfold Dr at h
 refine ah true Tryz.func221 rfl (nt Tryz.ntmps221 rfl) fun Q hQ t ht => ?_
 conv at ht => whnf
 subst ht
 refine .q fun K1 k1 => rg 3 ?_
 refine k1 _ _ ?_
 refine .q fun K2 k2 => rg 0 ?_
 obtain ⟨x1, hx1, h⟩ := ob h
 refine aI (l := p2) (f := aF) (cs := [.i ((x1).kind), .str ((x1).name), aH ((x1).kids)]) hx1 (aL x1) rfl ?_
 obtain ⟨x2, hx2, h⟩ := ob h
 refine ak (tq _ _ _ hx2) Jj (.cons (.same _) .nil) (fun g => by simp) (fun g => rfl) ?_
 refine ⟨rfl, ?_⟩
 refine k2 _ _ ?_
 refine .ret ?_
 have e9 := sj h
 subst e9
 refine hQ _ _ _ (aj aC (fun g => by simp) ?_)
 conv => whnf
 try rfl
theorem EU (n : Nat) (p0 : List Ty) (r : Ty × Bool) (h : j5 n p0 = some r) : aA Tryz.prog 263 [aH p0, .eptr [.func 221 []]] [] (.aZ [aU r.1, .bool r.2]) [] := by
 unfold j5 at h
 refine ah true Tryz.func263 rfl (nt Tryz.ntmps263 rfl) fun Q hQ t ht => ?_
 conv at ht => whnf
 subst ht
 refine .q fun K1 k1 => rg 1 ?_
 refine k1 _ _ ?_
 refine .q fun K2 k2 => rg 2 ?_
 obtain ⟨x1, hx1, h⟩ := ob h
 refine aI (l := p0) (f := aF) (cs := [.i ((x1).kind), .str ((x1).name), aH ((x1).kids)]) hx1 (aL x1) rfl ?_
 obtain ⟨x2, hx2, h⟩ := ob h
 refine cp (iZ _ _ _ hx2) wE (.cons (.same _) .nil) ?_
 refine k2 _ _ ?_
 refine .q fun K3 k3 => .q fun K4 k4 => rg 0 ?_
 refine k4 _ _ ?_
 refine .aB rfl h (fun hc1 h => ?_) (fun hc1 h => ?_)
 ·refine .q fun K5 k5 => rg 0 ?_
  refine k5 _ _ ?_
  refine .ret ?_
  have e9 := sj h
  subst e9
  refine hQ _ _ _ (aj aC (fun g => by simp) ?_)
  conv => whnf
  try rfl
 refine .skip ?_
 refine k3 _ _ ?_
 refine .q fun K6 k6 => rg 0 ?_
 obtain ⟨x3, hx3, h⟩ := ob h
 refine cp (SK _ _ _ _ _ hx3) akJ (.cons (.same _) (.cons (.same _) (.cons (.same _) .nil))) ?_
 refine k6 _ _ ?_
 refine .ret ?_
 have e9 := sj h
 subst e9
 refine hQ _ _ _ (aj aC (fun g => by simp) ?_)
 conv => whnf
 try rfl
theorem RZ (n : Nat) (p0 : Ty) (p1 : Ty) (p2 : List Ty) (r : Ty × Bool) (h : zw n p0 p1 p2 = some r) : aA Tryz.prog 222 [aU p0, aU p1, aH p2] [] (.aZ [aU r.1, .bool r.2]) [] := by
 unfold zw at h
 refine ah true Tryz.func222 rfl (nt Tryz.ntmps222 rfl) fun Q hQ t ht => ?_
 conv at ht => whnf
 subst ht
 refine .q fun K1 k1 => rg 3 ?_
 refine k1 _ _ ?_
 refine .q fun K2 k2 => rg 2 ?_
 obtain ⟨x1, hx1, h⟩ := ob h
 refine aI (l := p2) (f := aF) (cs := [.i ((x1).kind), .str ((x1).name), aH ((x1).kids)]) hx1 (aL x1) rfl ?_
 obtain ⟨x2, hx2, h⟩ := ob h
 refine cp (iZ _ _ _ hx2) wE (.cons (.same _) .nil) ?_
 refine k2 _ _ ?_
 refine .q fun K3 k3 => ?_
 obtain ⟨s1, hj1, h⟩ := ob h
 have hR1 : ∀ t9 h9, Le 0 t9 h9 (u4 (u2 (.ptr 0 0 :: (.bool s1 :: (u16 (u4 [])))))) [.box [.i 5, .str ([] : Str), aH ([(Ty.mk 4 ([] : Str) ([p0, x2.2.1]))])]] → K3 t9 h9 := by
  intro t9 h9 hw
  refine k3 _ _ (AW.le hw ?_)
  clear hw
  refine .ret ?_
  have e9 := sj h
  subst e9
  refine hQ _ _ _ (aj aC (fun g => by simp) ?_)
  conv => whnf
  try rfl
 refine rg 0 ?_
 refine cp (o7 0 p0 x2.2.1 _ rfl) Iw (.cons (.same _) (.cons (.same _) .nil)) ?_
 refine aG hj1 (fun hc1 hj1 => ?_) (fun hc1 hj1 => ?_)
 ·obtain ⟨x3, hx3, hj1⟩ := ob hj1
  refine ak (lD _ _ _ _ hx3) Bh (.cons (.same _) (.cons (.same _) .nil)) (fun g => by simp) (fun g => rfl) ?_
  cases hj1
  exact hR1 _ _ (wk [some 2] (.u4 (.u2 (.c rfl (.c rfl (.u16 (.u4 .nil)))))) (.b rfl (.c rfl (.c rfl (.e aD .nil))) .nil) rfl)
 cases hj1
 exact hR1 _ _ (wk [some 2] (.u4 (.u2 (.c rfl (.c rfl (.u16 (.u4 .nil)))))) (.b rfl (.c rfl (.c rfl (.e aD .nil))) .nil) rfl)
theorem Fz (n : Nat) (p0 : List Ty) (r : Ty × Bool) (h : j4 n p0 = some r) : aA Tryz.prog 263 [aH p0, .eptr [.func 222 []]] [] (.aZ [aU r.1, .bool r.2]) [] := by
 unfold j4 at h
 refine ah true Tryz.func263 rfl (nt Tryz.ntmps263 rfl) fun Q hQ t ht => ?_
 conv at ht => whnf
 subst ht
 refine .q fun K1 k1 => rg 1 ?_
 refine k1 _ _ ?_
 refine .q fun K2 k2 => rg 2 ?_
 obtain ⟨x1, hx1, h⟩ := ob h
 refine aI (l := p0) (f := aF) (cs := [.i ((x1).kind), .str ((x1).name), aH ((x1).kids)]) hx1 (aL x1) rfl ?_
 obtain ⟨x2, hx2, h⟩ := ob h
 refine cp (iZ _ _ _ hx2) wE (.cons (.same _) .nil) ?_
 refine k2 _ _ ?_
 refine .q fun K3 k3 => .q fun K4 k4 => rg 0 ?_
 refine k4 _ _ ?_
 refine .aB rfl h (fun hc1 h => ?_) (fun hc1 h => ?_)
 ·refine .q fun K5 k5 => rg 0 ?_
  refine k5 _ _ ?_
  refine .ret ?_
  have e9 := sj h
  subst e9
  refine hQ _ _ _ (aj aC (fun g => by simp) ?_)
  conv => whnf
  try rfl
 refine .skip ?_
 refine k3 _ _ ?_
 refine .q fun K6 k6 => rg 0 ?_
 obtain ⟨x3, hx3, h⟩ := ob h
 refine cp (RZ _ _ _ _ _ hx3) alj (.cons (.same _) (.cons (.same _) (.cons (.same _) .nil))) ?_
 refine k6 _ _ ?_
 refine .ret ?_
 have e9 := sj h
 subst e9
 refine hQ _ _ _ (aj aC (fun g => by simp) ?_)
 conv => whnf
 try rfl
theorem FH (n : Nat) (p0 : List Ty) (r : Ty × Bool) (h : nT n p0 = some r) : aA Tryz.prog 206 [aH p0] [] (.aZ [aU r.1, .bool r.2]) [] := by
 unfold nT at h
 refine ah true Tryz.func206 rfl (nt Tryz.ntmps206 rfl) fun Q hQ t ht => ?_
 conv at ht => whnf
 subst ht
 refine .q fun K1 k1 => rg 1 ?_
 refine k1 _ _ ?_
 refine .q fun K2 k2 => rg 1 ?_
 obtain ⟨x1, hx1, h⟩ := ob h
 refine aI (l := p0) (f := aF) (cs := [.i ((x1).kind), .str ((x1).name), aH ((x1).kids)]) hx1 (aL x1) rfl ?_
 obtain ⟨x2, hx2, h⟩ := ob h
 refine cp (dM _ _ _ hx2) pQ (.cons (.same _) .nil) ?_
 refine k2 _ _ ?_
 refine .q fun K3 k3 => rg 2 ?_
 obtain ⟨x3, hx3, h⟩ := ob h
 refine aI (l := p0) (f := aF) (cs := [.i ((x3).kind), .str ((x3).name), aH ((x3).kids)]) hx3 (aL x3) rfl ?_
 obtain ⟨x4, hx4, h⟩ := ob h
 refine cp (iZ _ _ _ hx4) wE (.cons (.same _) .nil) ?_
 refine k3 _ _ ?_
 refine .q fun K4 k4 => ?_
 obtain ⟨s1, hj1, h⟩ := ob h
 have hR1 : ∀ t9 h9, Le 0 t9 h9 (u2 (.ptr 0 0 :: (.bool s1.1 :: (u32 [])))) [.box [.i s1.2.1, .str s1.2.2.1, aH s1.2.2.2]] → K4 t9 h9 := by
  intro t9 h9 hw
  refine k4 _ _ (AW.le hw ?_)
  clear hw
  refine .ret ?_
  have e9 := sj h
  subst e9
  refine hQ _ _ _ (aj aC (fun g => by simp) ?_)
  conv => whnf
  try rfl
 refine rg 0 ?_
 obtain ⟨x5, hx5, hj1⟩ := ob hj1
 refine aI (l := p0) (f := aF) (cs := [.i ((x5).kind), .str ((x5).name), aH ((x5).kids)]) hx5 (aL x5) rfl ?_
 refine aG hj1 (fun hc1 hj1 => ?_) (fun hc1 hj1 => ?_)
 ·refine aG hj1 (fun hc2 hj1 => ?_) (fun hc2 hj1 => ?_)
  ·obtain ⟨x6, hx6, hj1⟩ := ob hj1
   refine ak (lD _ _ _ _ hx6) Bh (.cons (.same _) (.cons (.same _) .nil)) (fun g => by simp) (fun g => rfl) ?_
   refine ⟨rfl, ?_⟩
   cases hj1
   exact hR1 _ _ (wk [some 0] (.u2 (.c rfl (.c rfl (.u32 .nil)))) (.b rfl (.c rfl (.c rfl (.e aD .nil))) .nil) rfl)
  refine ⟨rfl, ?_⟩
  cases hj1
  exact hR1 _ _ (wk [some 0] (.u2 (.c rfl (.c rfl (.u32 .nil)))) (.b rfl (.c rfl (.c rfl (.e aD .nil))) .nil) rfl)
 refine ⟨rfl, ?_⟩
 cases hj1
 exact hR1 _ _ (wk [some 0] (.u2 (.c rfl (.c rfl (.u32 .nil)))) (.b rfl (.c rfl (.c rfl (.e aD .nil))) .nil) rfl)
end Abs
end Go.Proofs.YtiiaccpcoclklaaGreat
