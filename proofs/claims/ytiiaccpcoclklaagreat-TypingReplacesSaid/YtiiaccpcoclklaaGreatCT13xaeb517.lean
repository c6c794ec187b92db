/-
  Contracts of Go functions (printed). Conditions: none.
-/
import Derived.KernelRfl
import Derived.Test.YtiiaccpcoclklaaGreatCAbs38x04b7ad
import Derived.Test.YtiiaccpcoclklaaGreatCDfxa6bced
import Derived.Test.YtiiaccpcoclklaaGreatCTDx83fdfc
import Derived.Test.YtiiaccpcoclklaaGreatCT6x41f4a7
import Derived.Test.YtiiaccpcoclklaaGreatCT8xcc98cb
import Derived.Test.YtiiaccpcoclklaaGreatCT9xac54ee
import Derived.Test.YtiiaccpcoclklaaGreatCT11x837867
import Derived.Test.YtiiaccpcoclklaaGreatCT12xce544c
set_option linter.unusedSimpArgs false
set_option linter.unusedVariables false
namespace Go.Proofs.YtiiaccpcoclklaaGreat
namespace Abs
open Go Go.Proofs
set_option maxRecDepth 100000
set_option maxHeartbeats 40000000
theorem Td (n : Nat) (p0 : Ty) (p1 : Ty) (p2 : List Ty) (r : Ty × Bool) (h : zu n p0 p1 p2 = some r) : aA Tryz.prog 209 [aU p0, aU p1, aH p2] [] (.aZ [aU r.1, .bool r.2]) [] := by
 unfold zu at h
 refine ah true Tryz.func209 rfl (nt Tryz.ntmps209 rfl) fun Q hQ t ht => ?_
 conv at ht => whnf
 subst ht
 refine .q fun K1 k1 => rg 3 ?_
 refine k1 _ _ ?_
 refine .q fun K2 k2 => rg 1 ?_
 obtain ⟨x1, hx1, h⟩ := ob h
 refine aI (l := p2) (f := aF) (cs := [.i ((x1).kind), .str ((x1).name), aH ((x1).kids)]) hx1 (aL x1) rfl ?_
 obtain ⟨x2, hx2, h⟩ := ob h
 refine cp (dM _ _ _ hx2) pQ (.cons (.same _) .nil) ?_
 refine k2 _ _ ?_
 refine .q fun K3 k3 => ?_
 obtain ⟨s1, hj1, h⟩ := ob h
 have hR1 : ∀ t9 h9, Le 0 t9 h9 (u4 (u2 (.ptr 0 0 :: (.bool s1.1 :: (u16 (u2 [])))))) [.box [.i s1.2.1, .str s1.2.2.1, aH s1.2.2.2]] → K3 t9 h9 := by
  intro t9 h9 hw
  refine k3 _ _ (AW.le hw ?_)
  clear hw
  refine .ret ?_
  have e9 := sj h
  subst e9
  refine hQ _ _ _ (aj aC (fun g => by simp) ?_)
  conv => whnf
  try rfl
 refine rg 0 ?_
 obtain ⟨x3, hx3, hj1⟩ := ob hj1
 refine aI (l := p2) (f := aF) (cs := [.i ((x3).kind), .str ((x3).name), aH ((x3).kids)]) hx3 (aL x3) rfl ?_
 refine aG hj1 (fun hc1 hj1 => ?_) (fun hc1 hj1 => ?_)
 ·obtain ⟨x4, hx4, hj1⟩ := ob hj1
  refine ak (lD _ _ _ _ hx4) Bh (.cons (.same _) (.cons (.same _) .nil)) (fun g => by simp) (fun g => rfl) ?_
  refine ⟨rfl, ?_⟩
  cases hj1
  exact hR1 _ _ (wk [some 2] (.u4 (.u2 (.c rfl (.c rfl (.u16 (.u2 .nil)))))) (.b rfl (.c rfl (.c rfl (.e aD .nil))) .nil) rfl)
 refine ⟨rfl, ?_⟩
 cases hj1
 exact hR1 _ _ (wk [some 2] (.u4 (.u2 (.c rfl (.c rfl (.u16 (.u2 .nil)))))) (.b rfl (.c rfl (.c rfl (.e aD .nil))) .nil) rfl)
theorem xk (n : Nat) (p0 : List Ty) (r : Ty × Bool) (h : gP n p0 = some r) : aA Tryz.prog 263 [aH p0, .eptr [.func 209 []]] [] (.aZ [aU r.1, .bool r.2]) [] := by
 unfold gP at h
 refine ah true Tryz.func263 rfl (nt Tryz.ntmps263 rfl) fun Q hQ t ht => ?_
 conv at ht => whnf
 subst ht
 refine .q fun K1 k1 => rg 1 ?_
 refine k1 _ _ ?_
 refine .q fun K2 k2 => rg 2 ?_
 obtain ⟨x1, hx1, h⟩ := ob h
 refine aI (l := p0) (f := aF) (cs := [.i ((x1).kind), .str ((x1).name), aH ((x1).kids)]) hx1 (aL x1) rfl ?_
 obtain ⟨x2, hx2, h⟩ := ob h
 refine cp (iZ _ _ _ hx2) wE (.cons (.same _) .nil) ?_
 refine k2 _ _ ?_
 refine .q fun K3 k3 => .q fun K4 k4 => rg 0 ?_
 refine k4 _ _ ?_
 refine .aB rfl h (fun hc1 h => ?_) (fun hc1 h => ?_)
 ·refine .q fun K5 k5 => rg 0 ?_
  refine k5 _ _ ?_
  refine .ret ?_
  have e9 := sj h
  subst e9
  refine hQ _ _ _ (aj aC (fun g => by simp) ?_)
  conv => whnf
  try rfl
 refine .skip ?_
 refine k3 _ _ ?_
 refine .q fun K6 k6 => rg 0 ?_
 obtain ⟨x3, hx3, h⟩ := ob h
 refine cp (Td _ _ _ _ _ hx3) akZ (.cons (.same _) (.cons (.same _) (.cons (.same _) .nil))) ?_
 refine k6 _ _ ?_
 refine .ret ?_
 have e9 := sj h
 subst e9
 refine hQ _ _ _ (aj aC (fun g => by simp) ?_)
 conv => whnf
 try rfl
theorem TA (n : Nat) (p0 : Ty) (p1 : Ty) (r : Ty) (h : Lp n p0 p1 = some r) : aA Tryz.prog 204 [aU p0, aU p1] [] (aU r) [] := by
 unfold Lp at h
 refine ah true Tryz.func204 rfl (nt Tryz.ntmps204 rfl) fun Q hQ t ht => ?_
 conv at ht => whnf
 subst ht
 refine .q fun K1 k1 => rg 3 ?_
 refine k1 _ _ ?_
 refine .q fun K2 k2 => rg 0 ?_
 refine cp (o7 0 p0 p1 _ rfl) Iw (.cons (.same _) (.cons (.same _) .nil)) ?_
 refine cp (iD 0 (Ty.mk 5 ([] : Str) ([(Ty.mk 4 ([] : Str) ([p0, p1]))])) _ rfl) uW (.cons (.same _) .nil) ?_
 refine k2 _ _ ?_
 refine .ret ?_
 have e9 := sj h
 subst e9
 refine hQ _ _ _ (aj aC (fun g => by simp) ?_)
 conv => whnf
 try rfl
theorem qc (n : Nat) (p0 : List Ty) (r : Ty × Bool) (h : fM n p0 = some r) : aA Tryz.prog 262 [aH p0, .eptr [.func 204 []]] [] (.aZ [aU r.1, .bool r.2]) [] := by
 unfold fM at h
 refine ah true Tryz.func262 rfl (nt Tryz.ntmps262 rfl) fun Q hQ t ht => ?_
 conv at ht => whnf
 subst ht
 refine .q fun K1 k1 => rg 1 ?_
 refine k1 _ _ ?_
 refine .q fun K2 k2 => rg 1 ?_
 obtain ⟨x1, hx1, h⟩ := ob h
 refine aI (l := p0) (f := aF) (cs := [.i ((x1).kind), .str ((x1).name), aH ((x1).kids)]) hx1 (aL x1) rfl ?_
 obtain ⟨x2, hx2, h⟩ := ob h
 refine cp (dM _ _ _ hx2) pQ (.cons (.same _) .nil) ?_
 refine k2 _ _ ?_
 refine .q fun K3 k3 => rg 1 ?_
 obtain ⟨x3, hx3, h⟩ := ob h
 refine aI (l := p0) (f := aF) (cs := [.i ((x3).kind), .str ((x3).name), aH ((x3).kids)]) hx3 (aL x3) rfl ?_
 obtain ⟨x4, hx4, h⟩ := ob h
 refine cp (dM _ _ _ hx4) pQ (.cons (.same _) .nil) ?_
 refine k3 _ _ ?_
 refine .q fun K4 k4 => .q fun K5 k5 => ?_
 obtain ⟨s1, hj1, h⟩ := ob h
 have hR1 : ∀ t9 h9, Le 0 t9 h9 (.unk :: (.eptr [.func 204 []] :: (.unk :: (.ptr 0 0 :: (.unk :: (.ptr 1 0 :: (.unk :: (.ptr 2 0 :: (u16 (u4 (.bool s1 :: (u4 (.unk :: []))))))))))))) [.box [.i 0, .str ([] : Str), .slice (List.map aF ([] : List Ty)) .nils], .box [.i x2.1.kind, .str x2.1.name, aH x2.1.kids], .box [.i x4.1.kind, .str x4.1.name, aH x4.1.kids]] → K5 t9 h9 := by
  intro t9 h9 hw
  refine k5 _ _ (AW.le hw ?_)
  clear hw
  refine .aB rfl h (fun hc1 h => ?_) (fun hc1 h => ?_)
  ·refine .q fun K6 k6 => rg 0 ?_
   refine k6 _ _ ?_
   refine .ret ?_
   have e9 := sj h
   subst e9
   refine hQ _ _ _ (aj aC (fun g => by simp) ?_)
   conv => whnf
   try rfl
  refine .skip ?_
  refine k4 _ _ ?_
  refine .q fun K7 k7 => rg 0 ?_
  refine cp (TA 0 x2.1 x4.1 _ rfl) ale (.cons (.same _) (.cons (.same _) .nil)) ?_
  refine k7 _ _ ?_
  refine .ret ?_
  have e9 := sj h
  subst e9
  refine hQ _ _ _ (aj aC (fun g => by simp) ?_)
  conv => whnf
  try rfl
 refine rg 0 ?_
 refine aG hj1 (fun hc2 hj1 => ?_) (fun hc2 hj1 => ?_)
 ·cases hj1
  exact hR1 _ _ (li (.u (.s (.u (.s (.u (.s (.u (.s (.u16 (.u4 (.s (.u4 (.u .n))))))))))))))
 cases hj1
 exact hR1 _ _ (li (.u (.s (.u (.s (.u (.s (.u (.s (.u16 (.u4 (.s (.u4 (.u .n))))))))))))))
theorem Pj (n : Nat) (p0 : Ty) (r : Ty × Bool) (h : Je n p0 = some r) : aA Tryz.prog 223 [aU p0] [] (.aZ [aU r.1, .bool r.2]) [] := by
 unfold Je at h
 refine ah true Tryz.func223 rfl (nt Tryz.ntmps223 rfl) fun Q hQ t ht => ?_
 conv at ht => whnf
 subst ht
 refine .q fun K1 k1 => rg 2 ?_
 refine k1 _ _ ?_
 refine .q fun K2 k2 => rg 0 ?_
 refine cp (iD 0 p0 _ rfl) uW (.cons (.same _) .nil) ?_
 refine cp (iD 0 (Ty.mk 5 ([] : Str) ([p0])) _ rfl) uW (.cons (.same _) .nil) ?_
 refine k2 _ _ ?_
 refine .ret ?_
 have e9 := sj h
 subst e9
 refine hQ _ _ _ (aj aC (fun g => by simp) ?_)
 conv => whnf
 try rfl
theorem LP (n : Nat) (p0 : List Ty) (r : Ty × Bool) (h : oo n p0 = some r) : aA Tryz.prog 264 [aH p0, .eptr [.func 223 []]] [] (.aZ [aU r.1, .bool r.2]) [] := by
 unfold oo at h
 refine ah true Tryz.func264 rfl (nt Tryz.ntmps264 rfl) fun Q hQ t ht => ?_
 conv at ht => whnf
 subst ht
 refine .q fun K1 k1 => rg 1 ?_
 refine k1 _ _ ?_
 refine .q fun K2 k2 => rg 1 ?_
 obtain ⟨x1, hx1, h⟩ := ob h
 refine aI (l := p0) (f := aF) (cs := [.i ((x1).kind), .str ((x1).name), aH ((x1).kids)]) hx1 (aL x1) rfl ?_
 obtain ⟨x2, hx2, h⟩ := ob h
 refine cp (dM _ _ _ hx2) pQ (.cons (.same _) .nil) ?_
 refine k2 _ _ ?_
 refine .q fun K3 k3 => .q fun K4 k4 => rg 0 ?_
 refine k4 _ _ ?_
 refine .aB rfl h (fun hc1 h => ?_) (fun hc1 h => ?_)
 ·refine .q fun K5 k5 => rg 0 ?_
  refine k5 _ _ ?_
  refine .ret ?_
  have e9 := sj h
  subst e9
  refine hQ _ _ _ (aj aC (fun g => by simp) ?_)
  conv => whnf
  try rfl
 refine .skip ?_
 refine k3 _ _ ?_
 refine .q fun K6 k6 => rg 0 ?_
 refine cp (Pj 0 x2.1 _ rfl) akK (.cons (.same _) .nil) ?_
 refine k6 _ _ ?_
 refine .ret ?_
 have e9 := sj h
 subst e9
 refine hQ _ _ _ (aj aC (fun g => by simp) ?_)
 conv => whnf
 try rfl
theorem Qd (n : Nat) (p0 : Ty) (r : Ty × Bool) (h : Jc n p0 = some r) : aA Tryz.prog 224 [aU p0] [] (.aZ [aU r.1, .bool r.2]) [] := by
 unfold Jc at h
 refine ah true Tryz.func224 rfl (nt Tryz.ntmps224 rfl) fun Q hQ t ht => ?_
 conv at ht => whnf
 subst ht
 refine .q fun K1 k1 => rg 2 ?_
 refine k1 _ _ ?_
 refine .q fun K2 k2 => rg 0 ?_
 refine ak (qB 0 _ rfl) IG .nil (fun g => rfl) (fun g => by simp) ?_
 refine k2 _ _ ?_
 refine .ret ?_
 have e9 := sj h
 subst e9
 refine hQ _ _ _ (aj aC (fun g => by simp) ?_)
 conv => whnf
 try rfl
theorem LV (n : Nat) (p0 : List Ty) (r : Ty × Bool) (h : oC n p0 = some r) : aA Tryz.prog 264 [aH p0, .eptr [.func 224 []]] [] (.aZ [aU r.1, .bool r.2]) [] := by
 unfold oC at h
 refine ah true Tryz.func264 rfl (nt Tryz.ntmps264 rfl) fun Q hQ t ht => ?_
 conv at ht => whnf
 subst ht
 refine .q fun K1 k1 => rg 1 ?_
 refine k1 _ _ ?_
 refine .q fun K2 k2 => rg 1 ?_
 obtain ⟨x1, hx1, h⟩ := ob h
 refine aI (l := p0) (f := aF) (cs := [.i ((x1).kind), .str ((x1).name), aH ((x1).kids)]) hx1 (aL x1) rfl ?_
 obtain ⟨x2, hx2, h⟩ := ob h
 refine cp (dM _ _ _ hx2) pQ (.cons (.same _) .nil) ?_
 refine k2 _ _ ?_
 refine .q fun K3 k3 => .q fun K4 k4 => rg 0 ?_
 refine k4 _ _ ?_
 refine .aB rfl h (fun hc1 h => ?_) (fun hc1 h => ?_)
 ·refine .q fun K5 k5 => rg 0 ?_
  refine k5 _ _ ?_
  refine .ret ?_
  have e9 := sj h
  subst e9
  refine hQ _ _ _ (aj aC (fun g => by simp) ?_)
  conv => whnf
  try rfl
 refine .skip ?_
 refine k3 _ _ ?_
 refine .q fun K6 k6 => rg 0 ?_
 refine cp (Qd 0 x2.1 _ rfl) ak5 (.cons (.same _) .nil) ?_
 refine k6 _ _ ?_
 refine .ret ?_
 have e9 := sj h
 subst e9
 refine hQ _ _ _ (aj aC (fun g => by simp) ?_)
 conv => whnf
 try rfl
theorem RQ (n : Nat) (p0 : Ty) (r : Ty × Bool) (h : Li n p0 = some r) : aA Tryz.prog 211 [aU p0] [] (.aZ [aU r.1, .bool r.2]) [] := by
 unfold Li at h
 refine ah true Tryz.func211 rfl (nt Tryz.ntmps211 rfl) fun Q hQ t ht => ?_
 conv at ht => whnf
 subst ht
 refine .q fun K1 k1 => rg 2 ?_
 refine k1 _ _ ?_
 refine .q fun K2 k2 => rg 0 ?_
 refine ak (qB 0 _ rfl) IG .nil (fun g => rfl) (fun g => by simp) ?_
 refine ⟨rfl, ?_⟩
 refine k2 _ _ ?_
 refine .ret ?_
 have e9 := sj h
 subst e9
 refine hQ _ _ _ (aj aC (fun g => by simp) ?_)
 conv => whnf
 try rfl
theorem BQ (n : Nat) (p0 : List Ty) (r : Ty × Bool) (h : kL n p0 = some r) : aA Tryz.prog 264 [aH p0, .eptr [.func 211 []]] [] (.aZ [aU r.1, .bool r.2]) [] := by
 unfold kL at h
 refine ah true Tryz.func264 rfl (nt Tryz.ntmps264 rfl) fun Q hQ t ht => ?_
 conv at ht => whnf
 subst ht
 refine .q fun K1 k1 => rg 1 ?_
 refine k1 _ _ ?_
 refine .q fun K2 k2 => rg 1 ?_
 obtain ⟨x1, hx1, h⟩ := ob h
 refine aI (l := p0) (f := aF) (cs := [.i ((x1).kind), .str ((x1).name), aH ((x1).kids)]) hx1 (aL x1) rfl ?_
 obtain ⟨x2, hx2, h⟩ := ob h
 refine cp (dM _ _ _ hx2) pQ (.cons (.same _) .nil) ?_
 refine k2 _ _ ?_
 refine .q fun K3 k3 => .q fun K4 k4 => rg 0 ?_
 refine k4 _ _ ?_
 refine .aB rfl h (fun hc1 h => ?_) (fun hc1 h => ?_)
 ·refine .q fun K5 k5 => rg 0 ?_
  refine k5 _ _ ?_
  refine .ret ?_
  have e9 := sj h
  subst e9
  refine hQ _ _ _ (aj aC (fun g => by simp) ?_)
  conv => whnf
  try rfl
 refine .skip ?_
 refine k3 _ _ ?_
 refine .q fun K6 k6 => rg 0 ?_
 refine cp (RQ 0 x2.1 _ rfl) akI (.cons (.same _) .nil) ?_
 refine k6 _ _ ?_
 refine .ret ?_
 have e9 := sj h
 subst e9
 refine hQ _ _ _ (aj aC (fun g => by simp) ?_)
 conv => whnf
 try rfl
theorem Pt (n : Nat) (p0 : Ty) (p1 : Ty) (p2 : List Ty) (r : Ty × Bool) (h : Jp n p0 p1 p2 = some r) : aA Tryz.prog 225 [aU p0, aU p1, aH p2] [] (.aZ [aU r.1, .bool r.2]) [] := by
 unfold Jp at h
 refine ah true Tryz.func225 rfl (nt Tryz.ntmps225 rfl) fun Q hQ t ht => ?_
 conv at ht => whnf
 subst ht
 refine .q fun K1 k1 => rg 3 ?_
 refine k1 _ _ ?_
 refine .q fun K2 k2 => rg 0 ?_
 refine cp (iD 0 p0 _ rfl) uW (.cons (.same _) .nil) ?_
 refine k2 _ _ ?_
 refine .ret ?_
 have e9 := sj h
 subst e9
 refine hQ _ _ _ (aj aC (fun g => by simp) ?_)
 conv => whnf
 try rfl
theorem Fq (n : Nat) (p0 : List Ty) (r : Ty × Bool) (h : jY n p0 = some r) : aA Tryz.prog 263 [aH p0, .eptr [.func 225 []]] [] (.aZ [aU r.1, .bool r.2]) [] := by
 unfold jY at h
 refine ah true Tryz.func263 rfl (nt Tryz.ntmps263 rfl) fun Q hQ t ht => ?_
 conv at ht => whnf
 subst ht
 refine .q fun K1 k1 => rg 1 ?_
 refine k1 _ _ ?_
 refine .q fun K2 k2 => rg 2 ?_
 obtain ⟨x1, hx1, h⟩ := ob h
 refine aI (l := p0) (f := aF) (cs := [.i ((x1).kind), .str ((x1).name), aH ((x1).kids)]) hx1 (aL x1) rfl ?_
 obtain ⟨x2, hx2, h⟩ := ob h
 refine cp (iZ _ _ _ hx2) wE (.cons (.same _) .nil) ?_
 refine k2 _ _ ?_
 refine .q fun K3 k3 => .q fun K4 k4 => rg 0 ?_
 refine k4 _ _ ?_
 refine .aB rfl h (fun hc1 h => ?_) (fun hc1 h => ?_)
 ·refine .q fun K5 k5 => rg 0 ?_
  refine k5 _ _ ?_
  refine .ret ?_
  have e9 := sj h
  subst e9
  refine hQ _ _ _ (aj aC (fun g => by simp) ?_)
  conv => whnf
  try rfl
 refine .skip ?_
 refine k3 _ _ ?_
 refine .q fun K6 k6 => rg 0 ?_
 refine cp (Pt 0 x2.1 x2.2.1 p0 _ rfl) akw (.cons (.same _) (.cons (.same _) (.cons (.same _) .nil))) ?_
 refine k6 _ _ ?_
 refine .ret ?_
 have e9 := sj h
 subst e9
 refine hQ _ _ _ (aj aC (fun g => by simp) ?_)
 conv => whnf
 try rfl
theorem P8 (n : Nat) (p0 : Ty) (p1 : Ty) (p2 : List Ty) (r : Ty × Bool) (h : Ja n p0 p1 p2 = some r) : aA Tryz.prog 226 [aU p0, aU p1, aH p2] [] (.aZ [aU r.1, .bool r.2]) [] := by
 unfold Ja at h
 refine ah true Tryz.func226 rfl (nt Tryz.ntmps226 rfl) fun Q hQ t ht => ?_
 conv at ht => whnf
 subst ht
 refine .q fun K1 k1 => rg 3 ?_
 refine k1 _ _ ?_
 refine .q fun K2 k2 => rg 0 ?_
 refine cp (iD 0 p1 _ rfl) uW (.cons (.same _) .nil) ?_
 refine k2 _ _ ?_
 refine .ret ?_
 have e9 := sj h
 subst e9
 refine hQ _ _ _ (aj aC (fun g => by simp) ?_)
 conv => whnf
 try rfl
theorem FL (n : Nat) (p0 : List Ty) (r : Ty × Bool) (h : kg n p0 = some r) : aA Tryz.prog 263 [aH p0, .eptr [.func 226 []]] [] (.aZ [aU r.1, .bool r.2]) [] := by
 unfold kg at h
 refine ah true Tryz.func263 rfl (nt Tryz.ntmps263 rfl) fun Q hQ t ht => ?_
 conv at ht => whnf
 subst ht
 refine .q fun K1 k1 => rg 1 ?_
 refine k1 _ _ ?_
 refine .q fun K2 k2 => rg 2 ?_
 obtain ⟨x1, hx1, h⟩ := ob h
 refine aI (l := p0) (f := aF) (cs := [.i ((x1).kind), .str ((x1).name), aH ((x1).kids)]) hx1 (aL x1) rfl ?_
 obtain ⟨x2, hx2, h⟩ := ob h
 refine cp (iZ _ _ _ hx2) wE (.cons (.same _) .nil) ?_
 refine k2 _ _ ?_
 refine .q fun K3 k3 => .q fun K4 k4 => rg 0 ?_
 refine k4 _ _ ?_
 refine .aB rfl h (fun hc1 h => ?_) (fun hc1 h => ?_)
 ·refine .q fun K5 k5 => rg 0 ?_
  refine k5 _ _ ?_
  refine .ret ?_
  have e9 := sj h
  subst e9
  refine hQ _ _ _ (aj aC (fun g => by simp) ?_)
  conv => whnf
  try rfl
 refine .skip ?_
 refine k3 _ _ ?_
 refine .q fun K6 k6 => rg 0 ?_
 refine cp (P8 0 x2.1 x2.2.1 p0 _ rfl) aki (.cons (.same _) (.cons (.same _) (.cons (.same _) .nil))) ?_
 refine k6 _ _ ?_
 refine .ret ?_
 have e9 := sj h
 subst e9
 refine hQ _ _ _ (aj aC (fun g => by simp) ?_)
 conv => whnf
 try rfl
theorem PK (n : Nat) (p0 : Ty) (p1 : Ty) (p2 : List Ty) (r : Ty × Bool) (h : Jd n p0 p1 p2 = some r) : aA Tryz.prog 227 [aU p0, aU p1, aH p2] [] (.aZ [aU r.1, .bool r.2]) [] := by
 unfold Jd at h
 refine ah true Tryz.func227 rfl (nt Tryz.ntmps227 rfl) fun Q hQ t ht => ?_
 conv at ht => whnf
 subst ht
 refine .q fun K1 k1 => rg 3 ?_
 refine k1 _ _ ?_
 refine .q fun K2 k2 => rg 0 ?_
 refine cp (o7 0 p1 p0 _ rfl) Iw (.cons (.same _) (.cons (.same _) .nil)) ?_
 refine k2 _ _ ?_
 refine .ret ?_
 have e9 := sj h
 subst e9
 refine hQ _ _ _ (aj aC (fun g => by simp) ?_)
 conv => whnf
 try rfl
theorem EL (n : Nat) (p0 : List Ty) (r : Ty × Bool) (h : j6 n p0 = some r) : aA Tryz.prog 263 [aH p0, .eptr [.func 227 []]] [] (.aZ [aU r.1, .bool r.2]) [] := by
 unfold j6 at h
 refine ah true Tryz.func263 rfl (nt Tryz.ntmps263 rfl) fun Q hQ t ht => ?_
 conv at ht => whnf
 subst ht
 refine .q fun K1 k1 => rg 1 ?_
 refine k1 _ _ ?_
 refine .q fun K2 k2 => rg 2 ?_
 obtain ⟨x1, hx1, h⟩ := ob h
 refine aI (l := p0) (f := aF) (cs := [.i ((x1).kind), .str ((x1).name), aH ((x1).kids)]) hx1 (aL x1) rfl ?_
 obtain ⟨x2, hx2, h⟩ := ob h
 refine cp (iZ _ _ _ hx2) wE (.cons (.same _) .nil) ?_
 refine k2 _ _ ?_
 refine .q fun K3 k3 => .q fun K4 k4 => rg 0 ?_
 refine k4 _ _ ?_
 refine .aB rfl h (fun hc1 h => ?_) (fun hc1 h => ?_)
 ·refine .q fun K5 k5 => rg 0 ?_
  refine k5 _ _ ?_
  refine .ret ?_
  have e9 := sj h
  subst e9
  refine hQ _ _ _ (aj aC (fun g => by simp) ?_)
  conv => whnf
  try rfl
 refine .skip ?_
 refine k3 _ _ ?_
 refine .q fun K6 k6 => rg 0 ?_
 refine cp (PK 0 x2.1 x2.2.1 p0 _ rfl) ak7 (.cons (.same _) (.cons (.same _) (.cons (.same _) .nil))) ?_
 refine k6 _ _ ?_
 refine .ret ?_
 have e9 := sj h
 subst e9
 refine hQ _ _ _ (aj aC (fun g => by simp) ?_)
 conv => whnf
 try rfl
theorem Qi (n : Nat) (p0 : Ty) (p1 : Ty) (p2 : List Ty) (r : Ty × Bool) (h : xW n p0 p1 p2 = some r) : aA Tryz.prog 228 [aU p0, aU p1, aH p2] [] (.aZ [aU r.1, .bool r.2]) [] := by
 unfold xW at h
 refine ah true Tryz.func228 rfl (nt Tryz.ntmps228 rfl) fun Q hQ t ht => ?_
 conv at ht => whnf
 subst ht
 refine .q fun K1 k1 => rg 3 ?_
 refine k1 _ _ ?_
 refine .q fun K2 k2 => rg 1 ?_
 obtain ⟨x1, hx1, h⟩ := ob h
 refine aI (l := p2) (f := aF) (cs := [.i ((x1).kind), .str ((x1).name), aH ((x1).kids)]) hx1 (aL x1) rfl ?_
 obtain ⟨x2, hx2, h⟩ := ob h
 refine cp (dM _ _ _ hx2) pQ (.cons (.same _) .nil) ?_
 refine k2 _ _ ?_
 refine .q fun K3 k3 => ?_
 obtain ⟨s1, hj1, h⟩ := ob h
 have hR1 : ∀ t9 h9, Le 0 t9 h9 (u4 (u2 (.ptr 0 0 :: (.bool s1 :: (u16 (.unk :: [])))))) [.box [.i 5, .str ([] : Str), aH ([p1])]] → K3 t9 h9 := by
  intro t9 h9 hw
  refine k3 _ _ (AW.le hw ?_)
  clear hw
  refine .ret ?_
  have e9 := sj h
  subst e9
  refine hQ _ _ _ (aj aC (fun g => by simp) ?_)
  conv => whnf
  try rfl
 refine rg 0 ?_
 refine cp (iD 0 p1 _ rfl) uW (.cons (.same _) .nil) ?_
 refine aG hj1 (fun hc1 hj1 => ?_) (fun hc1 hj1 => ?_)
 ·obtain ⟨x3, hx3, hj1⟩ := ob hj1
  refine ak (lD _ _ _ _ hx3) Bh (.cons (.same _) (.cons (.same _) .nil)) (fun g => by simp) (fun g => rfl) ?_
  cases hj1
  exact hR1 _ _ (wk [some 2] (.u4 (.u2 (.c rfl (.c rfl (.u16 (.u .nil)))))) (.b rfl (.c rfl (.c rfl (.e aD .nil))) .nil) rfl)
 cases hj1
 exact hR1 _ _ (wk [some 2] (.u4 (.u2 (.c rfl (.c rfl (.u16 (.u .nil)))))) (.b rfl (.c rfl (.c rfl (.e aD .nil))) .nil) rfl)
theorem EZ (n : Nat) (p0 : List Ty) (r : Ty × Bool) (h : jZ n p0 = some r) : aA Tryz.prog 263 [aH p0, .eptr [.func 228 []]] [] (.aZ [aU r.1, .bool r.2]) [] := by
 unfold jZ at h
 refine ah true Tryz.func263 rfl (nt Tryz.ntmps263 rfl) fun Q hQ t ht => ?_
 conv at ht => whnf
 subst ht
 refine .q fun K1 k1 => rg 1 ?_
 refine k1 _ _ ?_
 refine .q fun K2 k2 => rg 2 ?_
 obtain ⟨x1, hx1, h⟩ := ob h
 refine aI (l := p0) (f := aF) (cs := [.i ((x1).kind), .str ((x1).name), aH ((x1).kids)]) hx1 (aL x1) rfl ?_
 obtain ⟨x2, hx2, h⟩ := ob h
 refine cp (iZ _ _ _ hx2) wE (.cons (.same _) .nil) ?_
 refine k2 _ _ ?_
 refine .q fun K3 k3 => .q fun K4 k4 => rg 0 ?_
 refine k4 _ _ ?_
 refine .aB rfl h (fun hc1 h => ?_) (fun hc1 h => ?_)
 ·refine .q fun K5 k5 => rg 0 ?_
  refine k5 _ _ ?_
  refine .ret ?_
  have e9 := sj h
  subst e9
  refine hQ _ _ _ (aj aC (fun g => by simp) ?_)
  conv => whnf
  try rfl
 refine .skip ?_
 refine k3 _ _ ?_
 refine .q fun K6 k6 => rg 0 ?_
 obtain ⟨x3, hx3, h⟩ := ob h
 refine cp (Qi _ _ _ _ _ hx3) akN (.cons (.same _) (.cons (.same _) (.cons (.same _) .nil))) ?_
 refine k6 _ _ ?_
 refine .ret ?_
 have e9 := sj h
 subst e9
 refine hQ _ _ _ (aj aC (fun g => by simp) ?_)
 conv => whnf
 try rfl
theorem QG (n : Nat) (p0 : Ty) (p1 : Ty) (p2 : List Ty) (r : Ty × Bool) (h : yh n p0 p1 p2 = some r) : aA Tryz.prog 229 [aU p0, aU p1, aH p2] [] (.aZ [aU r.1, .bool r.2]) [] := by
 unfold yh at h
 refine ah true Tryz.func229 rfl (nt Tryz.ntmps229 rfl) fun Q hQ t ht => ?_
 conv at ht => whnf
 subst ht
 refine .q fun K1 k1 => rg 3 ?_
 refine k1 _ _ ?_
 refine .q fun K2 k2 => rg 0 ?_
 obtain ⟨x1, hx1, h⟩ := ob h
 refine aI (l := p2) (f := aF) (cs := [.i ((x1).kind), .str ((x1).name), aH ((x1).kids)]) hx1 (aL x1) rfl ?_
 obtain ⟨x2, hx2, h⟩ := ob h
 refine ak (lD _ _ _ _ hx2) Bh (.cons (.same _) (.cons (.same _) .nil)) (fun g => by simp) (fun g => rfl) ?_
 refine ⟨rfl, ?_⟩
 refine k2 _ _ ?_
 refine .ret ?_
 have e9 := sj h
 subst e9
 refine hQ _ _ _ (aj aC (fun g => by simp) ?_)
 conv => whnf
 try rfl
theorem ED (n : Nat) (p0 : List Ty) (r : Ty × Bool) (h : kr n p0 = some r) : aA Tryz.prog 263 [aH p0, .eptr [.func 229 []]] [] (.aZ [aU r.1, .bool r.2]) [] := by
 unfold kr at h
 refine ah true Tryz.func263 rfl (nt Tryz.ntmps263 rfl) fun Q hQ t ht => ?_
 conv at ht => whnf
 subst ht
 refine .q fun K1 k1 => rg 1 ?_
 refine k1 _ _ ?_
 refine .q fun K2 k2 => rg 2 ?_
 obtain ⟨x1, hx1, h⟩ := ob h
 refine aI (l := p0) (f := aF) (cs := [.i ((x1).kind), .str ((x1).name), aH ((x1).kids)]) hx1 (aL x1) rfl ?_
 obtain ⟨x2, hx2, h⟩ := ob h
 refine cp (iZ _ _ _ hx2) wE (.cons (.same _) .nil) ?_
 refine k2 _ _ ?_
 refine .q fun K3 k3 => .q fun K4 k4 => rg 0 ?_
 refine k4 _ _ ?_
 refine .aB rfl h (fun hc1 h => ?_) (fun hc1 h => ?_)
 ·refine .q fun K5 k5 => rg 0 ?_
  refine k5 _ _ ?_
  refine .ret ?_
  have e9 := sj h
  subst e9
  refine hQ _ _ _ (aj aC (fun g => by simp) ?_)
  conv => whnf
  try rfl
 refine .skip ?_
 refine k3 _ _ ?_
 refine .q fun K6 k6 => rg 0 ?_
 obtain ⟨x3, hx3, h⟩ := ob h
 refine cp (QG _ _ _ _ _ hx3) ajW (.cons (.same _) (.cons (.same _) (.cons (.same _) .nil))) ?_
 refine k6 _ _ ?_
 refine .ret ?_
 have e9 := sj h
 subst e9
 refine hQ _ _ _ (aj aC (fun g => by simp) ?_)
 conv => whnf
 try rfl
theorem Mw (n : Nat) (p0 : List Ty) (r : Ty × Bool) (h : sH n p0 = some r) : aA Tryz.prog 266 [aH p0, .eptr [.func 215 []]] [] (.aZ [aU r.1, .bool r.2]) [] := by
 unfold sH at h
 refine ah true Tryz.func266 rfl (nt Tryz.ntmps266 rfl) fun Q hQ t ht => ?_
 conv at ht => whnf
 subst ht
 refine .q fun K1 k1 => rg 1 ?_
 refine k1 _ _ ?_
 refine .q fun K2 k2 => rg 0 ?_
 obtain ⟨x1, hx1, h⟩ := ob h
 refine aI (l := p0) (f := aF) (cs := [.i ((x1).kind), .str ((x1).name), aH ((x1).kids)]) hx1 (aL x1) rfl ?_
 refine cp (Fj 0 x1 _ rfl) aeA (.cons (.same _) .nil) ?_
 obtain ⟨x2, hx2, h⟩ := ob h
 refine aI (l := p0) (f := aF) (cs := [.i ((x2).kind), .str ((x2).name), aH ((x2).kids)]) hx2 (aL x2) rfl ?_
 refine ⟨rfl, ?_⟩
 refine k2 _ _ ?_
 refine .ret ?_
 have e9 := sj h
 subst e9
 refine hQ _ _ _ (aj aC (fun g => by simp) ?_)
 conv => whnf
 try rfl
theorem Pk (n : Nat) (p0 : List Ty) (r : Ty × Bool) (h : qR n p0 = some r) : aA Tryz.prog 230 [aH p0] [] (.aZ [aU r.1, .bool r.2]) [] := by
 unfold qR at h
 refine ah true Tryz.func230 rfl (nt Tryz.ntmps230 rfl) fun Q hQ t ht => ?_
 conv at ht => whnf
 subst ht
 refine .q fun K1 k1 => rg 1 ?_
 refine k1 _ _ ?_
 refine .q fun K2 k2 => rg 1 ?_
 obtain ⟨x1, hx1, h⟩ := ob h
 refine aI (l := p0) (f := aF) (cs := [.i ((x1).kind), .str ((x1).name), aH ((x1).kids)]) hx1 (aL x1) rfl ?_
 obtain ⟨x2, hx2, h⟩ := ob h
 refine cp (dM _ _ _ hx2) pQ (.cons (.same _) .nil) ?_
 refine k2 _ _ ?_
 refine .q fun K3 k3 => ?_
 obtain ⟨s1, hj1, h⟩ := ob h
 have hR1 : ∀ t9 h9, Le 0 t9 h9 (u2 (.ptr 0 0 :: (.bool s1.1 :: (u16 (u4 (u2 [])))))) [.box [.i 5, .str ([] : Str), aH s1.2]] → K3 t9 h9 := by
  intro t9 h9 hw
  refine k3 _ _ (AW.le hw ?_)
  clear hw
  refine .ret ?_
  have e9 := sj h
  subst e9
  refine hQ _ _ _ (aj aC (fun g => by simp) ?_)
  conv => whnf
  try rfl
 refine rg 0 ?_
 obtain ⟨x3, hx3, hj1⟩ := ob hj1
 refine aI (l := p0) (f := aF) (cs := [.i ((x3).kind), .str ((x3).name), aH ((x3).kids)]) hx3 (aL x3) rfl ?_
 refine cp (o7 0 x2.1 x3 _ rfl) Iw (.cons (.same _) (.cons (.same _) .nil)) ?_
 refine aG hj1 (fun hc1 hj1 => ?_) (fun hc1 hj1 => ?_)
 ·obtain ⟨x4, hx4, hj1⟩ := ob hj1
  refine aI (l := p0) (f := aF) (cs := [.i ((x4).kind), .str ((x4).name), aH ((x4).kids)]) hx4 (aL x4) rfl ?_
  refine ⟨rfl, ?_⟩
  cases hj1
  exact hR1 _ _ (wk [some 0] (.u2 (.c rfl (.c rfl (.u16 (.u4 (.u2 .nil)))))) (.b rfl (.c rfl (.c rfl (.e aD .nil))) .nil) rfl)
 refine ⟨rfl, ?_⟩
 cases hj1
 exact hR1 _ _ (wk [some 0] (.u2 (.c rfl (.c rfl (.u16 (.u4 (.u2 .nil)))))) (.b rfl (.c rfl (.c rfl (.e aD .nil))) .nil) rfl)
end Abs
end Go.Proofs.YtiiaccpcoclklaaGreat
