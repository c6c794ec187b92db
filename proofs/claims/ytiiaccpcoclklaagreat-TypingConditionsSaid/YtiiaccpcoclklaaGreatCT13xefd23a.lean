/-
  Plain functions and the contracts of Go functions by them (printed by gen.py). Conditions: none.
-/
import Derived.KernelRfl
import Derived.Test.YtiiaccpcoclklaaGreatCAbs38xf5d4b8
import Derived.Test.YtiiaccpcoclklaaGreatCDfx70d822
import Derived.Test.YtiiaccpcoclklaaGreatCDgx5ff6e3
import Derived.Test.YtiiaccpcoclklaaGreatCT6x32a01b
import Derived.Test.YtiiaccpcoclklaaGreatCT8x8176f5
import Derived.Test.YtiiaccpcoclklaaGreatCT9xe36993
import Derived.Test.YtiiaccpcoclklaaGreatCT11xbc19cd
import Derived.Test.YtiiaccpcoclklaaGreatCT12xe54e45
set_option linter.unusedSimpArgs false
set_option linter.unusedVariables false
namespace Go.Proofs.YtiiaccpcoclklaaGreat
namespace Abs
open Go Go.Proofs
set_option maxRecDepth 100000
set_option maxHeartbeats 40000000
theorem F8 (n : Nat) (p0 : Ty) (p1 : Ty) (p2 : List Ty) (r : Ty × Bool) (h : rO n p0 p1 p2 = some r) : ak Tryz.prog 209 [aQ p0, aQ p1, aJ p2] [] (.tup [aQ r.1, .bool r.2]) [] := by
 unfold rO at h
 refine ah true Tryz.func209 rfl (nt Tryz.ntmps209 rfl) fun Q hQ t ht => ?_
 conv at ht => whnf
 subst ht
 refine .q fun K1 k1 => rg 3 ?_
 refine k1 _ _ ?_
 refine .q fun K2 k2 => rg 1 ?_
 obtain ⟨x1, hx1, h⟩ := ob h
 refine aN (l := p2) (f := aG) (cs := [.i ((x1).kind), .str ((x1).name), aJ ((x1).kids)]) hx1 (aR x1) rfl ?_
 obtain ⟨x2, hx2, h⟩ := ob h
 refine cp (bU _ _ _ hx2) lV (.cons (.same _) .nil) ?_
 refine k2 _ _ ?_
 refine .q fun K3 k3 => ?_
 obtain ⟨s1, hj1, h⟩ := ob h
 have hR1 : ∀ t9 h9, Le 0 t9 h9 (u4 (u2 (.ptr 0 0 :: (.bool s1.1 :: (u16 (u2 [])))))) [.box [.i s1.2.1, .str s1.2.2.1, aJ s1.2.2.2]] → K3 t9 h9 := by
  intro t9 h9 hw
  refine k3 _ _ (AW.le hw ?_)
  clear hw
  refine .ret ?_
  have e9 := sj h
  subst e9
  refine hQ _ _ _ (aj au (fun g => by simp) ?_)
  conv => whnf
  try rfl
 refine rg 0 ?_
 obtain ⟨x3, hx3, hj1⟩ := ob hj1
 refine aN (l := p2) (f := aG) (cs := [.i ((x3).kind), .str ((x3).name), aJ ((x3).kids)]) hx3 (aR x3) rfl ?_
 refine aB hj1 (fun hc1 hj1 => ?_) (fun hc1 hj1 => ?_)
 ·obtain ⟨x4, hx4, hj1⟩ := ob hj1
  refine aD (j3 _ _ _ _ hx4) u7 (.cons (.same _) (.cons (.same _) .nil)) (fun g => by simp) (fun g => rfl) ?_
  refine ⟨rfl, ?_⟩
  cases hj1
  exact hR1 _ _ (wk [some 2] (.u4 (.u2 (.c rfl (.c rfl (.u16 (.u2 .nil)))))) (.b rfl (.c rfl (.c rfl (.e aF .nil))) .nil) rfl)
 refine ⟨rfl, ?_⟩
 cases hj1
 exact hR1 _ _ (wk [some 2] (.u4 (.u2 (.c rfl (.c rfl (.u16 (.u2 .nil)))))) (.b rfl (.c rfl (.c rfl (.e aF .nil))) .nil) rfl)
theorem qp (n : Nat) (p0 : List Ty) (r : Ty × Bool) (h : eG n p0 = some r) : ak Tryz.prog 263 [aJ p0, .eptr [.func 209 []]] [] (.tup [aQ r.1, .bool r.2]) [] := by
 unfold eG at h
 refine ah true Tryz.func263 rfl (nt Tryz.ntmps263 rfl) fun Q hQ t ht => ?_
 conv at ht => whnf
 subst ht
 refine .q fun K1 k1 => rg 1 ?_
 refine k1 _ _ ?_
 refine .q fun K2 k2 => rg 2 ?_
 obtain ⟨x1, hx1, h⟩ := ob h
 refine aN (l := p0) (f := aG) (cs := [.i ((x1).kind), .str ((x1).name), aJ ((x1).kids)]) hx1 (aR x1) rfl ?_
 obtain ⟨x2, hx2, h⟩ := ob h
 refine cp (gF _ _ _ hx2) pQ (.cons (.same _) .nil) ?_
 refine k2 _ _ ?_
 refine .q fun K3 k3 => .q fun K4 k4 => rg 0 ?_
 refine k4 _ _ ?_
 refine .aA rfl h (fun hc1 h => ?_) (fun hc1 h => ?_)
 ·refine .q fun K5 k5 => rg 0 ?_
  refine k5 _ _ ?_
  refine .ret ?_
  have e9 := sj h
  subst e9
  refine hQ _ _ _ (aj au (fun g => by simp) ?_)
  conv => whnf
  try rfl
 refine .skip ?_
 refine k3 _ _ ?_
 refine .q fun K6 k6 => rg 0 ?_
 obtain ⟨x3, hx3, h⟩ := ob h
 refine cp (F8 _ _ _ _ _ hx3) Ui (.cons (.same _) (.cons (.same _) (.cons (.same _) .nil))) ?_
 refine k6 _ _ ?_
 refine .ret ?_
 have e9 := sj h
 subst e9
 refine hQ _ _ _ (aj au (fun g => by simp) ?_)
 conv => whnf
 try rfl
theorem F5 (n : Nat) (p0 : Ty) (p1 : Ty) (r : Ty) (h : Cn n p0 p1 = some r) : ak Tryz.prog 204 [aQ p0, aQ p1] [] (aQ r) [] := by
 unfold Cn at h
 refine ah true Tryz.func204 rfl (nt Tryz.ntmps204 rfl) fun Q hQ t ht => ?_
 conv at ht => whnf
 subst ht
 refine .q fun K1 k1 => rg 3 ?_
 refine k1 _ _ ?_
 refine .q fun K2 k2 => rg 0 ?_
 refine cp (lg 0 p0 p1 _ rfl) Av (.cons (.same _) (.cons (.same _) .nil)) ?_
 refine cp (fC 0 (Ty.mk 5 ([] : Str) ([(Ty.mk 4 ([] : Str) ([p0, p1]))])) _ rfl) oD (.cons (.same _) .nil) ?_
 refine k2 _ _ ?_
 refine .ret ?_
 have e9 := sj h
 subst e9
 refine hQ _ _ _ (aj au (fun g => by simp) ?_)
 conv => whnf
 try rfl
theorem mE (n : Nat) (p0 : List Ty) (r : Ty × Bool) (h : dM n p0 = some r) : ak Tryz.prog 262 [aJ p0, .eptr [.func 204 []]] [] (.tup [aQ r.1, .bool r.2]) [] := by
 unfold dM at h
 refine ah true Tryz.func262 rfl (nt Tryz.ntmps262 rfl) fun Q hQ t ht => ?_
 conv at ht => whnf
 subst ht
 refine .q fun K1 k1 => rg 1 ?_
 refine k1 _ _ ?_
 refine .q fun K2 k2 => rg 1 ?_
 obtain ⟨x1, hx1, h⟩ := ob h
 refine aN (l := p0) (f := aG) (cs := [.i ((x1).kind), .str ((x1).name), aJ ((x1).kids)]) hx1 (aR x1) rfl ?_
 obtain ⟨x2, hx2, h⟩ := ob h
 refine cp (bU _ _ _ hx2) lV (.cons (.same _) .nil) ?_
 refine k2 _ _ ?_
 refine .q fun K3 k3 => rg 1 ?_
 obtain ⟨x3, hx3, h⟩ := ob h
 refine aN (l := p0) (f := aG) (cs := [.i ((x3).kind), .str ((x3).name), aJ ((x3).kids)]) hx3 (aR x3) rfl ?_
 obtain ⟨x4, hx4, h⟩ := ob h
 refine cp (bU _ _ _ hx4) lV (.cons (.same _) .nil) ?_
 refine k3 _ _ ?_
 refine .q fun K4 k4 => .q fun K5 k5 => ?_
 obtain ⟨s1, hj1, h⟩ := ob h
 have hR1 : ∀ t9 h9, Le 0 t9 h9 (.unk :: (.eptr [.func 204 []] :: (.unk :: (.ptr 0 0 :: (.unk :: (.ptr 1 0 :: (.unk :: (.ptr 2 0 :: (u16 (u4 (.bool s1 :: (u4 (.unk :: []))))))))))))) [.box [.i 0, .str ([] : Str), .slice (List.map aG ([] : List Ty)) .nils], .box [.i x2.1.kind, .str x2.1.name, aJ x2.1.kids], .box [.i x4.1.kind, .str x4.1.name, aJ x4.1.kids]] → K5 t9 h9 := by
  intro t9 h9 hw
  refine k5 _ _ (AW.le hw ?_)
  clear hw
  refine .aA rfl h (fun hc1 h => ?_) (fun hc1 h => ?_)
  ·refine .q fun K6 k6 => rg 0 ?_
   refine k6 _ _ ?_
   refine .ret ?_
   have e9 := sj h
   subst e9
   refine hQ _ _ _ (aj au (fun g => by simp) ?_)
   conv => whnf
   try rfl
  refine .skip ?_
  refine k4 _ _ ?_
  refine .q fun K7 k7 => rg 0 ?_
  refine cp (F5 0 x2.1 x4.1 _ rfl) Tg (.cons (.same _) (.cons (.same _) .nil)) ?_
  refine k7 _ _ ?_
  refine .ret ?_
  have e9 := sj h
  subst e9
  refine hQ _ _ _ (aj au (fun g => by simp) ?_)
  conv => whnf
  try rfl
 refine rg 0 ?_
 refine aB hj1 (fun hc2 hj1 => ?_) (fun hc2 hj1 => ?_)
 ·cases hj1
  exact hR1 _ _ (li (.u (.s (.u (.s (.u (.s (.u (.s (.u16 (.u4 (.s (.u4 (.u .n))))))))))))))
 cases hj1
 exact hR1 _ _ (li (.u (.s (.u (.s (.u (.s (.u (.s (.u16 (.u4 (.s (.u4 (.u .n))))))))))))))
theorem ES (n : Nat) (p0 : Ty) (r : Ty × Bool) (h : Aw n p0 = some r) : ak Tryz.prog 223 [aQ p0] [] (.tup [aQ r.1, .bool r.2]) [] := by
 unfold Aw at h
 refine ah true Tryz.func223 rfl (nt Tryz.ntmps223 rfl) fun Q hQ t ht => ?_
 conv at ht => whnf
 subst ht
 refine .q fun K1 k1 => rg 2 ?_
 refine k1 _ _ ?_
 refine .q fun K2 k2 => rg 0 ?_
 refine cp (fC 0 p0 _ rfl) oD (.cons (.same _) .nil) ?_
 refine cp (fC 0 (Ty.mk 5 ([] : Str) ([p0])) _ rfl) oD (.cons (.same _) .nil) ?_
 refine k2 _ _ ?_
 refine .ret ?_
 have e9 := sj h
 subst e9
 refine hQ _ _ _ (aj au (fun g => by simp) ?_)
 conv => whnf
 try rfl
theorem CF (n : Nat) (p0 : List Ty) (r : Ty × Bool) (h : kS n p0 = some r) : ak Tryz.prog 264 [aJ p0, .eptr [.func 223 []]] [] (.tup [aQ r.1, .bool r.2]) [] := by
 unfold kS at h
 refine ah true Tryz.func264 rfl (nt Tryz.ntmps264 rfl) fun Q hQ t ht => ?_
 conv at ht => whnf
 subst ht
 refine .q fun K1 k1 => rg 1 ?_
 refine k1 _ _ ?_
 refine .q fun K2 k2 => rg 1 ?_
 obtain ⟨x1, hx1, h⟩ := ob h
 refine aN (l := p0) (f := aG) (cs := [.i ((x1).kind), .str ((x1).name), aJ ((x1).kids)]) hx1 (aR x1) rfl ?_
 obtain ⟨x2, hx2, h⟩ := ob h
 refine cp (bU _ _ _ hx2) lV (.cons (.same _) .nil) ?_
 refine k2 _ _ ?_
 refine .q fun K3 k3 => .q fun K4 k4 => rg 0 ?_
 refine k4 _ _ ?_
 refine .aA rfl h (fun hc1 h => ?_) (fun hc1 h => ?_)
 ·refine .q fun K5 k5 => rg 0 ?_
  refine k5 _ _ ?_
  refine .ret ?_
  have e9 := sj h
  subst e9
  refine hQ _ _ _ (aj au (fun g => by simp) ?_)
  conv => whnf
  try rfl
 refine .skip ?_
 refine k3 _ _ ?_
 refine .q fun K6 k6 => rg 0 ?_
 refine cp (ES 0 x2.1 _ rfl) Vf (.cons (.same _) .nil) ?_
 refine k6 _ _ ?_
 refine .ret ?_
 have e9 := sj h
 subst e9
 refine hQ _ _ _ (aj au (fun g => by simp) ?_)
 conv => whnf
 try rfl
theorem EG (n : Nat) (p0 : Ty) (r : Ty × Bool) (h : Af n p0 = some r) : ak Tryz.prog 224 [aQ p0] [] (.tup [aQ r.1, .bool r.2]) [] := by
 unfold Af at h
 refine ah true Tryz.func224 rfl (nt Tryz.ntmps224 rfl) fun Q hQ t ht => ?_
 conv at ht => whnf
 subst ht
 refine .q fun K1 k1 => rg 2 ?_
 refine k1 _ _ ?_
 refine .q fun K2 k2 => rg 0 ?_
 refine aD (mq 0 _ rfl) zU .nil (fun g => rfl) (fun g => by simp) ?_
 refine k2 _ _ ?_
 refine .ret ?_
 have e9 := sj h
 subst e9
 refine hQ _ _ _ (aj au (fun g => by simp) ?_)
 conv => whnf
 try rfl
theorem CG (n : Nat) (p0 : List Ty) (r : Ty × Bool) (h : kR n p0 = some r) : ak Tryz.prog 264 [aJ p0, .eptr [.func 224 []]] [] (.tup [aQ r.1, .bool r.2]) [] := by
 unfold kR at h
 refine ah true Tryz.func264 rfl (nt Tryz.ntmps264 rfl) fun Q hQ t ht => ?_
 conv at ht => whnf
 subst ht
 refine .q fun K1 k1 => rg 1 ?_
 refine k1 _ _ ?_
 refine .q fun K2 k2 => rg 1 ?_
 obtain ⟨x1, hx1, h⟩ := ob h
 refine aN (l := p0) (f := aG) (cs := [.i ((x1).kind), .str ((x1).name), aJ ((x1).kids)]) hx1 (aR x1) rfl ?_
 obtain ⟨x2, hx2, h⟩ := ob h
 refine cp (bU _ _ _ hx2) lV (.cons (.same _) .nil) ?_
 refine k2 _ _ ?_
 refine .q fun K3 k3 => .q fun K4 k4 => rg 0 ?_
 refine k4 _ _ ?_
 refine .aA rfl h (fun hc1 h => ?_) (fun hc1 h => ?_)
 ·refine .q fun K5 k5 => rg 0 ?_
  refine k5 _ _ ?_
  refine .ret ?_
  have e9 := sj h
  subst e9
  refine hQ _ _ _ (aj au (fun g => by simp) ?_)
  conv => whnf
  try rfl
 refine .skip ?_
 refine k3 _ _ ?_
 refine .q fun K6 k6 => rg 0 ?_
 refine cp (EG 0 x2.1 _ rfl) Tq (.cons (.same _) .nil) ?_
 refine k6 _ _ ?_
 refine .ret ?_
 have e9 := sj h
 subst e9
 refine hQ _ _ _ (aj au (fun g => by simp) ?_)
 conv => whnf
 try rfl
theorem FB (n : Nat) (p0 : Ty) (r : Ty × Bool) (h : Cu n p0 = some r) : ak Tryz.prog 211 [aQ p0] [] (.tup [aQ r.1, .bool r.2]) [] := by
 unfold Cu at h
 refine ah true Tryz.func211 rfl (nt Tryz.ntmps211 rfl) fun Q hQ t ht => ?_
 conv at ht => whnf
 subst ht
 refine .q fun K1 k1 => rg 2 ?_
 refine k1 _ _ ?_
 refine .q fun K2 k2 => rg 0 ?_
 refine aD (mq 0 _ rfl) zU .nil (fun g => rfl) (fun g => by simp) ?_
 refine ⟨rfl, ?_⟩
 refine k2 _ _ ?_
 refine .ret ?_
 have e9 := sj h
 subst e9
 refine hQ _ _ _ (aj au (fun g => by simp) ?_)
 conv => whnf
 try rfl
theorem uH (n : Nat) (p0 : List Ty) (r : Ty × Bool) (h : iQ n p0 = some r) : ak Tryz.prog 264 [aJ p0, .eptr [.func 211 []]] [] (.tup [aQ r.1, .bool r.2]) [] := by
 unfold iQ at h
 refine ah true Tryz.func264 rfl (nt Tryz.ntmps264 rfl) fun Q hQ t ht => ?_
 conv at ht => whnf
 subst ht
 refine .q fun K1 k1 => rg 1 ?_
 refine k1 _ _ ?_
 refine .q fun K2 k2 => rg 1 ?_
 obtain ⟨x1, hx1, h⟩ := ob h
 refine aN (l := p0) (f := aG) (cs := [.i ((x1).kind), .str ((x1).name), aJ ((x1).kids)]) hx1 (aR x1) rfl ?_
 obtain ⟨x2, hx2, h⟩ := ob h
 refine cp (bU _ _ _ hx2) lV (.cons (.same _) .nil) ?_
 refine k2 _ _ ?_
 refine .q fun K3 k3 => .q fun K4 k4 => rg 0 ?_
 refine k4 _ _ ?_
 refine .aA rfl h (fun hc1 h => ?_) (fun hc1 h => ?_)
 ·refine .q fun K5 k5 => rg 0 ?_
  refine k5 _ _ ?_
  refine .ret ?_
  have e9 := sj h
  subst e9
  refine hQ _ _ _ (aj au (fun g => by simp) ?_)
  conv => whnf
  try rfl
 refine .skip ?_
 refine k3 _ _ ?_
 refine .q fun K6 k6 => rg 0 ?_
 refine cp (FB 0 x2.1 _ rfl) Te (.cons (.same _) .nil) ?_
 refine k6 _ _ ?_
 refine .ret ?_
 have e9 := sj h
 subst e9
 refine hQ _ _ _ (aj au (fun g => by simp) ?_)
 conv => whnf
 try rfl
theorem EM (n : Nat) (p0 : Ty) (p1 : Ty) (p2 : List Ty) (r : Ty × Bool) (h : Az n p0 p1 p2 = some r) : ak Tryz.prog 225 [aQ p0, aQ p1, aJ p2] [] (.tup [aQ r.1, .bool r.2]) [] := by
 unfold Az at h
 refine ah true Tryz.func225 rfl (nt Tryz.ntmps225 rfl) fun Q hQ t ht => ?_
 conv at ht => whnf
 subst ht
 refine .q fun K1 k1 => rg 3 ?_
 refine k1 _ _ ?_
 refine .q fun K2 k2 => rg 0 ?_
 refine cp (fC 0 p0 _ rfl) oD (.cons (.same _) .nil) ?_
 refine k2 _ _ ?_
 refine .ret ?_
 have e9 := sj h
 subst e9
 refine hQ _ _ _ (aj au (fun g => by simp) ?_)
 conv => whnf
 try rfl
theorem yD (n : Nat) (p0 : List Ty) (r : Ty × Bool) (h : iF n p0 = some r) : ak Tryz.prog 263 [aJ p0, .eptr [.func 225 []]] [] (.tup [aQ r.1, .bool r.2]) [] := by
 unfold iF at h
 refine ah true Tryz.func263 rfl (nt Tryz.ntmps263 rfl) fun Q hQ t ht => ?_
 conv at ht => whnf
 subst ht
 refine .q fun K1 k1 => rg 1 ?_
 refine k1 _ _ ?_
 refine .q fun K2 k2 => rg 2 ?_
 obtain ⟨x1, hx1, h⟩ := ob h
 refine aN (l := p0) (f := aG) (cs := [.i ((x1).kind), .str ((x1).name), aJ ((x1).kids)]) hx1 (aR x1) rfl ?_
 obtain ⟨x2, hx2, h⟩ := ob h
 refine cp (gF _ _ _ hx2) pQ (.cons (.same _) .nil) ?_
 refine k2 _ _ ?_
 refine .q fun K3 k3 => .q fun K4 k4 => rg 0 ?_
 refine k4 _ _ ?_
 refine .aA rfl h (fun hc1 h => ?_) (fun hc1 h => ?_)
 ·refine .q fun K5 k5 => rg 0 ?_
  refine k5 _ _ ?_
  refine .ret ?_
  have e9 := sj h
  subst e9
  refine hQ _ _ _ (aj au (fun g => by simp) ?_)
  conv => whnf
  try rfl
 refine .skip ?_
 refine k3 _ _ ?_
 refine .q fun K6 k6 => rg 0 ?_
 refine cp (EM 0 x2.1 x2.2.1 p0 _ rfl) Vb (.cons (.same _) (.cons (.same _) (.cons (.same _) .nil))) ?_
 refine k6 _ _ ?_
 refine .ret ?_
 have e9 := sj h
 subst e9
 refine hQ _ _ _ (aj au (fun g => by simp) ?_)
 conv => whnf
 try rfl
theorem ED (n : Nat) (p0 : Ty) (p1 : Ty) (p2 : List Ty) (r : Ty × Bool) (h : Au n p0 p1 p2 = some r) : ak Tryz.prog 226 [aQ p0, aQ p1, aJ p2] [] (.tup [aQ r.1, .bool r.2]) [] := by
 unfold Au at h
 refine ah true Tryz.func226 rfl (nt Tryz.ntmps226 rfl) fun Q hQ t ht => ?_
 conv at ht => whnf
 subst ht
 refine .q fun K1 k1 => rg 3 ?_
 refine k1 _ _ ?_
 refine .q fun K2 k2 => rg 0 ?_
 refine cp (fC 0 p1 _ rfl) oD (.cons (.same _) .nil) ?_
 refine k2 _ _ ?_
 refine .ret ?_
 have e9 := sj h
 subst e9
 refine hQ _ _ _ (aj au (fun g => by simp) ?_)
 conv => whnf
 try rfl
theorem xV (n : Nat) (p0 : List Ty) (r : Ty × Bool) (h : iI n p0 = some r) : ak Tryz.prog 263 [aJ p0, .eptr [.func 226 []]] [] (.tup [aQ r.1, .bool r.2]) [] := by
 unfold iI at h
 refine ah true Tryz.func263 rfl (nt Tryz.ntmps263 rfl) fun Q hQ t ht => ?_
 conv at ht => whnf
 subst ht
 refine .q fun K1 k1 => rg 1 ?_
 refine k1 _ _ ?_
 refine .q fun K2 k2 => rg 2 ?_
 obtain ⟨x1, hx1, h⟩ := ob h
 refine aN (l := p0) (f := aG) (cs := [.i ((x1).kind), .str ((x1).name), aJ ((x1).kids)]) hx1 (aR x1) rfl ?_
 obtain ⟨x2, hx2, h⟩ := ob h
 refine cp (gF _ _ _ hx2) pQ (.cons (.same _) .nil) ?_
 refine k2 _ _ ?_
 refine .q fun K3 k3 => .q fun K4 k4 => rg 0 ?_
 refine k4 _ _ ?_
 refine .aA rfl h (fun hc1 h => ?_) (fun hc1 h => ?_)
 ·refine .q fun K5 k5 => rg 0 ?_
  refine k5 _ _ ?_
  refine .ret ?_
  have e9 := sj h
  subst e9
  refine hQ _ _ _ (aj au (fun g => by simp) ?_)
  conv => whnf
  try rfl
 refine .skip ?_
 refine k3 _ _ ?_
 refine .q fun K6 k6 => rg 0 ?_
 refine cp (ED 0 x2.1 x2.2.1 p0 _ rfl) TP (.cons (.same _) (.cons (.same _) (.cons (.same _) .nil))) ?_
 refine k6 _ _ ?_
 refine .ret ?_
 have e9 := sj h
 subst e9
 refine hQ _ _ _ (aj au (fun g => by simp) ?_)
 conv => whnf
 try rfl
theorem EK (n : Nat) (p0 : Ty) (p1 : Ty) (p2 : List Ty) (r : Ty × Bool) (h : zP n p0 p1 p2 = some r) : ak Tryz.prog 227 [aQ p0, aQ p1, aJ p2] [] (.tup [aQ r.1, .bool r.2]) [] := by
 unfold zP at h
 refine ah true Tryz.func227 rfl (nt Tryz.ntmps227 rfl) fun Q hQ t ht => ?_
 conv at ht => whnf
 subst ht
 refine .q fun K1 k1 => rg 3 ?_
 refine k1 _ _ ?_
 refine .q fun K2 k2 => rg 0 ?_
 refine cp (lg 0 p1 p0 _ rfl) Av (.cons (.same _) (.cons (.same _) .nil)) ?_
 refine k2 _ _ ?_
 refine .ret ?_
 have e9 := sj h
 subst e9
 refine hQ _ _ _ (aj au (fun g => by simp) ?_)
 conv => whnf
 try rfl
end Abs
end Go.Proofs.YtiiaccpcoclklaaGreat
namespace Go.Proofs.YtiiaccpcoclklaaGreat
namespace Abs
open Go Go.Proofs
set_option maxRecDepth 100000
set_option maxHeartbeats 40000000
theorem xO (n : Nat) (p0 : List Ty) (r : Ty × Bool) (h : iL n p0 = some r) : ak Tryz.prog 263 [aJ p0, .eptr [.func 227 []]] [] (.tup [aQ r.1, .bool r.2]) [] := by
 unfold iL at h
 refine ah true Tryz.func263 rfl (nt Tryz.ntmps263 rfl) fun Q hQ t ht => ?_
 conv at ht => whnf
 subst ht
 refine .q fun K1 k1 => rg 1 ?_
 refine k1 _ _ ?_
 refine .q fun K2 k2 => rg 2 ?_
 obtain ⟨x1, hx1, h⟩ := ob h
 refine aN (l := p0) (f := aG) (cs := [.i ((x1).kind), .str ((x1).name), aJ ((x1).kids)]) hx1 (aR x1) rfl ?_
 obtain ⟨x2, hx2, h⟩ := ob h
 refine cp (gF _ _ _ hx2) pQ (.cons (.same _) .nil) ?_
 refine k2 _ _ ?_
 refine .q fun K3 k3 => .q fun K4 k4 => rg 0 ?_
 refine k4 _ _ ?_
 refine .aA rfl h (fun hc1 h => ?_) (fun hc1 h => ?_)
 ·refine .q fun K5 k5 => rg 0 ?_
  refine k5 _ _ ?_
  refine .ret ?_
  have e9 := sj h
  subst e9
  refine hQ _ _ _ (aj au (fun g => by simp) ?_)
  conv => whnf
  try rfl
 refine .skip ?_
 refine k3 _ _ ?_
 refine .q fun K6 k6 => rg 0 ?_
 refine cp (EK 0 x2.1 x2.2.1 p0 _ rfl) UE (.cons (.same _) (.cons (.same _) (.cons (.same _) .nil))) ?_
 refine k6 _ _ ?_
 refine .ret ?_
 have e9 := sj h
 subst e9
 refine hQ _ _ _ (aj au (fun g => by simp) ?_)
 conv => whnf
 try rfl
theorem ER (n : Nat) (p0 : Ty) (p1 : Ty) (p2 : List Ty) (r : Ty × Bool) (h : qJ n p0 p1 p2 = some r) : ak Tryz.prog 228 [aQ p0, aQ p1, aJ p2] [] (.tup [aQ r.1, .bool r.2]) [] := by
 unfold qJ at h
 refine ah true Tryz.func228 rfl (nt Tryz.ntmps228 rfl) fun Q hQ t ht => ?_
 conv at ht => whnf
 subst ht
 refine .q fun K1 k1 => rg 3 ?_
 refine k1 _ _ ?_
 refine .q fun K2 k2 => rg 1 ?_
 obtain ⟨x1, hx1, h⟩ := ob h
 refine aN (l := p2) (f := aG) (cs := [.i ((x1).kind), .str ((x1).name), aJ ((x1).kids)]) hx1 (aR x1) rfl ?_
 obtain ⟨x2, hx2, h⟩ := ob h
 refine cp (bU _ _ _ hx2) lV (.cons (.same _) .nil) ?_
 refine k2 _ _ ?_
 refine .q fun K3 k3 => ?_
 obtain ⟨s1, hj1, h⟩ := ob h
 have hR1 : ∀ t9 h9, Le 0 t9 h9 (u4 (u2 (.ptr 0 0 :: (.bool s1 :: (u16 (.unk :: [])))))) [.box [.i 5, .str ([] : Str), aJ ([p1])]] → K3 t9 h9 := by
  intro t9 h9 hw
  refine k3 _ _ (AW.le hw ?_)
  clear hw
  refine .ret ?_
  have e9 := sj h
  subst e9
  refine hQ _ _ _ (aj au (fun g => by simp) ?_)
  conv => whnf
  try rfl
 refine rg 0 ?_
 refine cp (fC 0 p1 _ rfl) oD (.cons (.same _) .nil) ?_
 refine aB hj1 (fun hc1 hj1 => ?_) (fun hc1 hj1 => ?_)
 ·obtain ⟨x3, hx3, hj1⟩ := ob hj1
  refine aD (j3 _ _ _ _ hx3) u7 (.cons (.same _) (.cons (.same _) .nil)) (fun g => by simp) (fun g => rfl) ?_
  cases hj1
  exact hR1 _ _ (wk [some 2] (.u4 (.u2 (.c rfl (.c rfl (.u16 (.u .nil)))))) (.b rfl (.c rfl (.c rfl (.e aF .nil))) .nil) rfl)
 cases hj1
 exact hR1 _ _ (wk [some 2] (.u4 (.u2 (.c rfl (.c rfl (.u16 (.u .nil)))))) (.b rfl (.c rfl (.c rfl (.e aF .nil))) .nil) rfl)
theorem yA (n : Nat) (p0 : List Ty) (r : Ty × Bool) (h : iJ n p0 = some r) : ak Tryz.prog 263 [aJ p0, .eptr [.func 228 []]] [] (.tup [aQ r.1, .bool r.2]) [] := by
 unfold iJ at h
 refine ah true Tryz.func263 rfl (nt Tryz.ntmps263 rfl) fun Q hQ t ht => ?_
 conv at ht => whnf
 subst ht
 refine .q fun K1 k1 => rg 1 ?_
 refine k1 _ _ ?_
 refine .q fun K2 k2 => rg 2 ?_
 obtain ⟨x1, hx1, h⟩ := ob h
 refine aN (l := p0) (f := aG) (cs := [.i ((x1).kind), .str ((x1).name), aJ ((x1).kids)]) hx1 (aR x1) rfl ?_
 obtain ⟨x2, hx2, h⟩ := ob h
 refine cp (gF _ _ _ hx2) pQ (.cons (.same _) .nil) ?_
 refine k2 _ _ ?_
 refine .q fun K3 k3 => .q fun K4 k4 => rg 0 ?_
 refine k4 _ _ ?_
 refine .aA rfl h (fun hc1 h => ?_) (fun hc1 h => ?_)
 ·refine .q fun K5 k5 => rg 0 ?_
  refine k5 _ _ ?_
  refine .ret ?_
  have e9 := sj h
  subst e9
  refine hQ _ _ _ (aj au (fun g => by simp) ?_)
  conv => whnf
  try rfl
 refine .skip ?_
 refine k3 _ _ ?_
 refine .q fun K6 k6 => rg 0 ?_
 obtain ⟨x3, hx3, h⟩ := ob h
 refine cp (ER _ _ _ _ _ hx3) UJ (.cons (.same _) (.cons (.same _) (.cons (.same _) .nil))) ?_
 refine k6 _ _ ?_
 refine .ret ?_
 have e9 := sj h
 subst e9
 refine hQ _ _ _ (aj au (fun g => by simp) ?_)
 conv => whnf
 try rfl
theorem EF (n : Nat) (p0 : Ty) (p1 : Ty) (p2 : List Ty) (r : Ty × Bool) (h : qD n p0 p1 p2 = some r) : ak Tryz.prog 229 [aQ p0, aQ p1, aJ p2] [] (.tup [aQ r.1, .bool r.2]) [] := by
 unfold qD at h
 refine ah true Tryz.func229 rfl (nt Tryz.ntmps229 rfl) fun Q hQ t ht => ?_
 conv at ht => whnf
 subst ht
 refine .q fun K1 k1 => rg 3 ?_
 refine k1 _ _ ?_
 refine .q fun K2 k2 => rg 0 ?_
 obtain ⟨x1, hx1, h⟩ := ob h
 refine aN (l := p2) (f := aG) (cs := [.i ((x1).kind), .str ((x1).name), aJ ((x1).kids)]) hx1 (aR x1) rfl ?_
 obtain ⟨x2, hx2, h⟩ := ob h
 refine aD (j3 _ _ _ _ hx2) u7 (.cons (.same _) (.cons (.same _) .nil)) (fun g => by simp) (fun g => rfl) ?_
 refine ⟨rfl, ?_⟩
 refine k2 _ _ ?_
 refine .ret ?_
 have e9 := sj h
 subst e9
 refine hQ _ _ _ (aj au (fun g => by simp) ?_)
 conv => whnf
 try rfl
theorem xH (n : Nat) (p0 : List Ty) (r : Ty × Bool) (h : iK n p0 = some r) : ak Tryz.prog 263 [aJ p0, .eptr [.func 229 []]] [] (.tup [aQ r.1, .bool r.2]) [] := by
 unfold iK at h
 refine ah true Tryz.func263 rfl (nt Tryz.ntmps263 rfl) fun Q hQ t ht => ?_
 conv at ht => whnf
 subst ht
 refine .q fun K1 k1 => rg 1 ?_
 refine k1 _ _ ?_
 refine .q fun K2 k2 => rg 2 ?_
 obtain ⟨x1, hx1, h⟩ := ob h
 refine aN (l := p0) (f := aG) (cs := [.i ((x1).kind), .str ((x1).name), aJ ((x1).kids)]) hx1 (aR x1) rfl ?_
 obtain ⟨x2, hx2, h⟩ := ob h
 refine cp (gF _ _ _ hx2) pQ (.cons (.same _) .nil) ?_
 refine k2 _ _ ?_
 refine .q fun K3 k3 => .q fun K4 k4 => rg 0 ?_
 refine k4 _ _ ?_
 refine .aA rfl h (fun hc1 h => ?_) (fun hc1 h => ?_)
 ·refine .q fun K5 k5 => rg 0 ?_
  refine k5 _ _ ?_
  refine .ret ?_
  have e9 := sj h
  subst e9
  refine hQ _ _ _ (aj au (fun g => by simp) ?_)
  conv => whnf
  try rfl
 refine .skip ?_
 refine k3 _ _ ?_
 refine .q fun K6 k6 => rg 0 ?_
 obtain ⟨x3, hx3, h⟩ := ob h
 refine cp (EF _ _ _ _ _ hx3) Tn (.cons (.same _) (.cons (.same _) (.cons (.same _) .nil))) ?_
 refine k6 _ _ ?_
 refine .ret ?_
 have e9 := sj h
 subst e9
 refine hQ _ _ _ (aj au (fun g => by simp) ?_)
 conv => whnf
 try rfl
theorem DZ (n : Nat) (p0 : List Ty) (r : Ty × Bool) (h : nU n p0 = some r) : ak Tryz.prog 266 [aJ p0, .eptr [.func 215 []]] [] (.tup [aQ r.1, .bool r.2]) [] := by
 unfold nU at h
 refine ah true Tryz.func266 rfl (nt Tryz.ntmps266 rfl) fun Q hQ t ht => ?_
 conv at ht => whnf
 subst ht
 refine .q fun K1 k1 => rg 1 ?_
 refine k1 _ _ ?_
 refine .q fun K2 k2 => rg 0 ?_
 obtain ⟨x1, hx1, h⟩ := ob h
 refine aN (l := p0) (f := aG) (cs := [.i ((x1).kind), .str ((x1).name), aJ ((x1).kids)]) hx1 (aR x1) rfl ?_
 refine cp (wY 0 x1 _ rfl) MZ (.cons (.same _) .nil) ?_
 obtain ⟨x2, hx2, h⟩ := ob h
 refine aN (l := p0) (f := aG) (cs := [.i ((x2).kind), .str ((x2).name), aJ ((x2).kids)]) hx2 (aR x2) rfl ?_
 refine ⟨rfl, ?_⟩
 refine k2 _ _ ?_
 refine .ret ?_
 have e9 := sj h
 subst e9
 refine hQ _ _ _ (aj au (fun g => by simp) ?_)
 conv => whnf
 try rfl
theorem ET (n : Nat) (p0 : List Ty) (r : Ty × Bool) (h : mQ n p0 = some r) : ak Tryz.prog 230 [aJ p0] [] (.tup [aQ r.1, .bool r.2]) [] := by
 unfold mQ at h
 refine ah true Tryz.func230 rfl (nt Tryz.ntmps230 rfl) fun Q hQ t ht => ?_
 conv at ht => whnf
 subst ht
 refine .q fun K1 k1 => rg 1 ?_
 refine k1 _ _ ?_
 refine .q fun K2 k2 => rg 1 ?_
 obtain ⟨x1, hx1, h⟩ := ob h
 refine aN (l := p0) (f := aG) (cs := [.i ((x1).kind), .str ((x1).name), aJ ((x1).kids)]) hx1 (aR x1) rfl ?_
 obtain ⟨x2, hx2, h⟩ := ob h
 refine cp (bU _ _ _ hx2) lV (.cons (.same _) .nil) ?_
 refine k2 _ _ ?_
 refine .q fun K3 k3 => ?_
 obtain ⟨s1, hj1, h⟩ := ob h
 have hR1 : ∀ t9 h9, Le 0 t9 h9 (u2 (.ptr 0 0 :: (.bool s1.1 :: (u16 (u4 (u2 [])))))) [.box [.i 5, .str ([] : Str), aJ s1.2]] → K3 t9 h9 := by
  intro t9 h9 hw
  refine k3 _ _ (AW.le hw ?_)
  clear hw
  refine .ret ?_
  have e9 := sj h
  subst e9
  refine hQ _ _ _ (aj au (fun g => by simp) ?_)
  conv => whnf
  try rfl
 refine rg 0 ?_
 obtain ⟨x3, hx3, hj1⟩ := ob hj1
 refine aN (l := p0) (f := aG) (cs := [.i ((x3).kind), .str ((x3).name), aJ ((x3).kids)]) hx3 (aR x3) rfl ?_
 refine cp (lg 0 x2.1 x3 _ rfl) Av (.cons (.same _) (.cons (.same _) .nil)) ?_
 refine aB hj1 (fun hc1 hj1 => ?_) (fun hc1 hj1 => ?_)
 ·obtain ⟨x4, hx4, hj1⟩ := ob hj1
  refine aN (l := p0) (f := aG) (cs := [.i ((x4).kind), .str ((x4).name), aJ ((x4).kids)]) hx4 (aR x4) rfl ?_
  refine ⟨rfl, ?_⟩
  cases hj1
  exact hR1 _ _ (wk [some 0] (.u2 (.c rfl (.c rfl (.u16 (.u4 (.u2 .nil)))))) (.b rfl (.c rfl (.c rfl (.e aF .nil))) .nil) rfl)
 refine ⟨rfl, ?_⟩
 cases hj1
 exact hR1 _ _ (wk [some 0] (.u2 (.c rfl (.c rfl (.u16 (.u4 (.u2 .nil)))))) (.b rfl (.c rfl (.c rfl (.e aF .nil))) .nil) rfl)
end Abs
end Go.Proofs.YtiiaccpcoclklaaGreat
