/-
  Contracts of Go functions (printed). Conditions: none.
-/
import Derived.KernelRfl
import Derived.Test.YtiiaccpcoclklaaGreatCAbs38x04b7ad
import Derived.Test.YtiiaccpcoclklaaGreatCDfxa6bced
import Derived.Test.YtiiaccpcoclklaaGreatCTDx83fdfc
import Derived.Test.YtiiaccpcoclklaaGreatCT6x41f4a7
import Derived.Test.YtiiaccpcoclklaaGreatCT8xcc98cb
set_option linter.unusedSimpArgs false
set_option linter.unusedVariables false
namespace Go.Proofs.YtiiaccpcoclklaaGreat
namespace Abs
open Go Go.Proofs
set_option maxRecDepth 100000
set_option maxHeartbeats 40000000
theorem Hu (n : Nat) (r : Unit) (h : BR n = some r) : aA Tryz.prog 208 [.func 227 []] [] (.func 263 [.eptr [.func 227 []]]) [] := by
 unfold BR at h
 refine ah false Tryz.func208 rfl (nt Tryz.ntmps208 rfl) fun Q hQ t ht => ?_
 conv at ht => whnf
 subst ht
 refine .q fun K1 k1 => rg 1 ?_
 refine k1 _ _ ?_
 refine .q fun K2 k2 => rg 0 ?_
 refine k2 _ _ ?_
 refine .ret ?_
 have e9 := sj h
 subst e9
 refine hQ _ _ _ (dz (u2 (.func 263 [.eptr [.func 227 []]] :: (.unk :: []))) [] (wk [] (.u2 (.cons (.func' (.cons (.uK rfl rfl (.cons (.func' .nil) .nil)) .nil)) (.u .nil))) .nil rfl) (bG aC [] rfl .nil ?_))
 conv => whnf
 first | rfl | (simp; done) | (simp; rfl) | (simp; constructor <;> rfl)
theorem GD (n : Nat) (r : Unit) (h : BN n = some r) : aA Tryz.prog 208 [.func 228 []] [] (.func 263 [.eptr [.func 228 []]]) [] := by
 unfold BN at h
 refine ah false Tryz.func208 rfl (nt Tryz.ntmps208 rfl) fun Q hQ t ht => ?_
 conv at ht => whnf
 subst ht
 refine .q fun K1 k1 => rg 1 ?_
 refine k1 _ _ ?_
 refine .q fun K2 k2 => rg 0 ?_
 refine k2 _ _ ?_
 refine .ret ?_
 have e9 := sj h
 subst e9
 refine hQ _ _ _ (dz (u2 (.func 263 [.eptr [.func 228 []]] :: (.unk :: []))) [] (wk [] (.u2 (.cons (.func' (.cons (.uK rfl rfl (.cons (.func' .nil) .nil)) .nil)) (.u .nil))) .nil rfl) (bG aC [] rfl .nil ?_))
 conv => whnf
 first | rfl | (simp; done) | (simp; rfl) | (simp; constructor <;> rfl)
theorem H8 (n : Nat) (r : Unit) (h : BP n = some r) : aA Tryz.prog 208 [.func 229 []] [] (.func 263 [.eptr [.func 229 []]]) [] := by
 unfold BP at h
 refine ah false Tryz.func208 rfl (nt Tryz.ntmps208 rfl) fun Q hQ t ht => ?_
 conv at ht => whnf
 subst ht
 refine .q fun K1 k1 => rg 1 ?_
 refine k1 _ _ ?_
 refine .q fun K2 k2 => rg 0 ?_
 refine k2 _ _ ?_
 refine .ret ?_
 have e9 := sj h
 subst e9
 refine hQ _ _ _ (dz (u2 (.func 263 [.eptr [.func 229 []]] :: (.unk :: []))) [] (wk [] (.u2 (.cons (.func' (.cons (.uK rfl rfl (.cons (.func' .nil) .nil)) .nil)) (.u .nil))) .nil rfl) (bG aC [] rfl .nil ?_))
 conv => whnf
 first | rfl | (simp; done) | (simp; rfl) | (simp; constructor <;> rfl)
theorem Yb (n : Nat) (r : Unit) (h : Rh n = some r) : aA Tryz.prog 131 [] [] (.agg (dI ++ [])) [] := by
 unfold Rh at h
 refine ah false Tryz.func131 rfl (nt Tryz.ntmps131 rfl) fun Q hQ t ht => ?_
 conv at ht => whnf
 subst ht
 refine .q fun K1 k1 => rg 1 ?_
 refine k1 _ _ ?_
 refine .q fun K2 k2 => rg 0 ?_
 refine ak (mX 0 _ rfl) Ct .nil (fun g => rfl) (fun g => by simp) ?_
 refine cp (xV 0 2 (Ty.mk 2 ([] : Str) ([])) _ rfl) OY (.cons (.same _) (.cons (.same _) .nil)) ?_
 refine ak (qB 0 _ rfl) IG .nil (fun g => rfl) (fun g => by simp) ?_
 refine cp (xV 0 1 (Ty.mk 1 ([] : Str) ([])) _ rfl) OY (.cons (.same _) (.cons (.same _) .nil)) ?_
 refine ak (mX 0 _ rfl) Ct .nil (fun g => rfl) (fun g => by simp) ?_
 refine cp (xV 0 1 (Ty.mk 2 ([] : Str) ([])) _ rfl) OY (.cons (.same _) (.cons (.same _) .nil)) ?_
 refine k2 _ _ ?_
 refine .q fun K3 k3 => rg 0 ?_
 refine k3 _ _ ?_
 refine .q fun K4 k4 => rg 0 ?_
 refine cp (aae 0 _ rfl) adD (.cons (.same _) .nil) ?_
 refine k4 _ _ ?_
 refine .q fun K5 k5 => rg 0 ?_
 refine k5 _ _ ?_
 refine .q fun K6 k6 => rg 0 ?_
 refine cp (Kz 0 _ rfl) Aa (.cons (.same _) .nil) ?_
 refine k6 _ _ ?_
 refine .q fun K7 k7 => rg 0 ?_
 refine cp (Vk 0 _ rfl) X9 (.cons (.same _) .nil) ?_
 refine k7 _ _ ?_
 refine .q fun K8 k8 => rg 0 ?_
 refine ak (mX 0 _ rfl) Ct .nil (fun g => rfl) (fun g => by simp) ?_
 refine cp (wS 0 (Ty.mk 2 ([] : Str) ([])) _ rfl) XR (.cons (.same _) .nil) ?_
 refine ak (mX 0 _ rfl) Ct .nil (fun g => rfl) (fun g => by simp) ?_
 refine cp (wS 0 (Ty.mk 2 ([] : Str) ([])) _ rfl) XR (.cons (.same _) .nil) ?_
 refine ak (qB 0 _ rfl) IG .nil (fun g => rfl) (fun g => by simp) ?_
 refine cp (wS 0 (Ty.mk 1 ([] : Str) ([])) _ rfl) XR (.cons (.same _) .nil) ?_
 refine cp (Iq 0 _ rfl) XQ (.cons (.same _) .nil) ?_
 refine cp (Iq 0 _ rfl) XQ (.cons (.same _) .nil) ?_
 refine cp (TD 0 _ rfl) XQ (.cons (.same _) .nil) ?_
 refine cp (YD 0 _ rfl) O8 (.cons (.same _) .nil) ?_
 refine ak (qB 0 _ rfl) IG .nil (fun g => rfl) (fun g => by simp) ?_
 refine cp (iD 0 (Ty.mk 1 ([] : Str) ([])) _ rfl) uW (.cons (.same _) .nil) ?_
 refine cp (xV 0 1 (Ty.mk 5 ([] : Str) ([(Ty.mk 1 ([] : Str) ([]))])) _ rfl) OY (.cons (.same _) (.cons (.same _) .nil)) ?_
 refine cp (zL 0 _ rfl) O8 (.cons (.same _) .nil) ?_
 refine cp (zL 0 _ rfl) O8 (.cons (.same _) .nil) ?_
 refine cp (zL 0 _ rfl) O8 (.cons (.same _) .nil) ?_
 refine cp (Vq 0 _ rfl) adD (.cons (.same _) .nil) ?_
 refine cp (G6 0 _ rfl) Aa (.cons (.same _) .nil) ?_
 refine cp (Hw 0 _ rfl) Aa (.cons (.same _) .nil) ?_
 refine cp (QY 0 _ rfl) X9 (.cons (.same _) .nil) ?_
 refine cp (PL 0 _ rfl) X9 (.cons (.same _) .nil) ?_
 refine cp (GH 0 _ rfl) Aa (.cons (.same _) .nil) ?_
 refine cp (H6 0 _ rfl) Aa (.cons (.same _) .nil) ?_
 refine cp (Hu 0 _ rfl) Aa (.cons (.same _) .nil) ?_
 refine cp (GD 0 _ rfl) Aa (.cons (.same _) .nil) ?_
 refine cp (H8 0 _ rfl) Aa (.cons (.same _) .nil) ?_
 refine k8 _ _ ?_
 refine .ret ?_
 have e9 := sj h
 subst e9
 refine hQ _ _ _ (aj aC (fun g => by simp) ?_)
 conv => whnf
 try rfl
theorem Kq (n : Nat) (p0 : Env) (r : (List (Str × Ty)) × (List (Str × Bool))) (h : qp n p0 = some r) : aA Tryz.prog 67 [jX p0] [] (.ptr 0 0) [.box (.mapr 1 :: (.mapr 2 :: (dI ++ (.psl 3 1 (List.length ([] : List Int)) :: [])))), .mp (gI r.1), .mp (fI r.2), .arr 1 (List.map encI ([] : List Int))] := by
 unfold qp at h
 refine ah false Tryz.func67 rfl (nt Tryz.ntmps67 rfl) fun Q hQ t ht => ?_
 conv at ht => whnf
 subst ht
 refine .q fun K1 k1 => rg 1 ?_
 refine k1 _ _ ?_
 refine .q fun K2 k2 => rg 3 ?_
 obtain ⟨x1, hx1, h⟩ := ob h
 refine bU [] [1] [jX p0] [jX p0] (Uf _ _ _ hx1) ajO rfl .nil (by simp; try decide) (.cons (.same _) .nil) (rn := .mapr 1) (by simp; try decide) (Hn := [.mp (gI x1)]) ((bK (congrArg AObj.mp (dB (f := aU) (fun g x => by simp) _ _)) rfl)) ?_
 refine ak (Yb 0 _ rfl) akD .nil (fun g => rfl) (fun g => by simp) ?_
 refine k2 _ _ ?_
 refine .q fun K3 k3 => .q fun K4 k4 => rg 0 ?_
 refine bB (l := p0.carriers) (f := bQ) ?_
 refine k4 _ _ ?_
 refine .block ?_
 obtain ⟨o1, ho1, h⟩ := ob h
 have hR1 : ∀ s2 : List (Str × Bool), o1 = .nx s2 → ∀ t9 h9, Le 0 t9 h9 (u2 (.unk :: (.ptr 0 0 :: (u16 (u4 (u2 (.unk :: []))))))) [.box (.mapr 1 :: (.mapr 2 :: (dI ++ (.slice (List.map encI ([] : List Int)) .nils :: [])))), .mp (gI x1), .mp (fI s2)] → K3 t9 h9 := by
  intro s2 ho
  subst ho
  dsimp only [LR.el] at h
  intro t9 h9 hw
  refine k3 _ _ (AW.le hw ?_)
  refine .q fun K5 k5 => rg 0 ?_
  refine k5 _ _ ?_
  refine .ret ?_
  have e9 := sj h
  subst e9
  refine hQ _ _ _ (dz (u2 (.ptr 0 0 :: (u16 (u8 [])))) [.box (.mapr 1 :: (.mapr 2 :: (dI ++ (.psl 3 1 (List.length ([] : List Int)) :: [])))), .mp (gI x1), .mp (fI s2), .arr 1 (List.map encI ([] : List Int))] (wk [some 0, some 1, some 2, none] (.u2 (.c rfl (.u16 (.u8 .nil)))) (.b rfl (.c rfl (.c rfl (.mP aT (.cons (.nilP _ _) .nil)))) (.old .mT (.old .mB (.w rfl .nil)))) rfl) (bG aC [0, 1, 2, 3] rfl (.cons (by simp only [cK, ren, bR, bE, dO, bP, aQ, bf, bT, aD, aM, aK, aN, aT]; try rfl) (.cons (congrArg AObj.mp (dB (f := aU) (fun g x => by simp) _ _)) (.cons (congrArg AObj.mp (dB (f := (fun (x : Bool) => .bool x)) (fun g x => rfl) _ _)) (.cons (congrArg (AObj.arr _) (aQ _ _)) .nil)))) ?_))
  conv => whnf
  first | rfl | (simp; done) | (simp; rfl) | (simp; constructor <;> rfl)
 refine .loopS (nk n p0) (fun (s1 : Int × (List (Str × Bool))) => (u2 (.unk :: (.ptr 0 0 :: (u8 (.unk :: (dS p0.carriers :: (.i (p0.carriers.length : Int) :: (.i s1.1 :: (u8 (u2 (.unk :: [])))))))))))) (fun (s1 : Int × (List (Str × Bool))) => [.box (.mapr 1 :: (.mapr 2 :: (dI ++ (.slice (List.map encI ([] : List Int)) .nils :: [])))), .mp (gI x1), .mp (fI s1.2)]) ho1 (fun _ => rfl) (wk [some 3, some 1, some 2] (.u2 (.u (.c rfl (.u8 (.u (.e aK (.c rfl (.c rfl (.u8 (.u2 (.u .nil))))))))))) (.b rfl (.c rfl (.c rfl (.mP aT (.c rfl .nil)))) (.old .mT (.old .mB .nil))) rfl) ?_
 intro n1 s1 hs1 KL1 hKL1
 unfold nk at hs1
 refine .q fun K6 k6 => rg 0 ?_
 refine k6 _ _ ?_
 refine .q fun K7 k7 => ?_
 refine .aB rfl hs1 (fun hc1 hs1 => ?_) (fun hc1 hs1 => ?_)
 ·refine .skip ?_
  refine k7 _ _ ?_
  refine .q fun K8 k8 => ?_
  refine .block ?_
  refine .q fun K9 k9 => rg 1 ?_
  obtain ⟨x2, hx2, hs1⟩ := ob hs1
  refine aI (l := p0.carriers) (f := bQ) (cs := [.str ((x2).name), dx ((x2).elems)]) hx2 (rfl) rfl ?_
  refine k9 _ _ ?_
  refine rg 0 ?_
  obtain ⟨x3, hx3, hs1⟩ := ob hs1
  refine Il (m := s1.2) (f := (fun (x : Bool) => .bool x)) hx3 rfl ?_
  refine ⟨rfl, ?_⟩
  refine k8 _ _ ?_
  refine .know 15 0 fun hv1 => ?_
  refine .know 13 0 fun hv2 => ?_
  refine rg 0 ?_
  refine ⟨(s1.1 + 1), by have := dK hv1; have := fU hv2; have h8 := of_decide_eq_true hc1; exact bI (by omega) (by omega), ?_⟩
  exact hKL1 _ _ _ hs1 (wk [some 0, some 1, some 2] (.u2 (.u (.c rfl (.u8 (.u (.e aK (.c rfl (.c rfl (.u8 (.u2 (.u .nil))))))))))) (.b rfl (.c rfl (.c rfl (.mP aT (.c rfl .nil)))) (.old .mT (.old .mB .nil))) rfl)
 refine .exit ?_
 exact hR1 _ (sj hs1).symm _ _ (li (.u2 (.u (.s (.u16 (.u4 (.u2 (.u .n))))))))
theorem SS (n : Nat) (p0 : Int) (r : Bool) (h : sF n p0 = some r) : aA Tryz.prog 133 [.i p0] [] (.bool r) [] := by
 unfold sF at h
 refine ah true Tryz.func133 rfl (nt Tryz.ntmps133 rfl) fun Q hQ t ht => ?_
 conv at ht => whnf
 subst ht
 refine .q fun K1 k1 => rg 0 ?_
 refine k1 _ _ ?_
 refine .q fun K2 k2 => ?_
 obtain ⟨s1, hj1, h⟩ := ob h
 have hR1 : ∀ t9 h9, Le 0 t9 h9 (u2 (.bool s1 :: (u8 (u4 (u2 []))))) [] → K2 t9 h9 := by
  intro t9 h9 hw
  refine k2 _ _ (AW.le hw ?_)
  clear hw
  refine .ret ?_
  have e9 := sj h
  subst e9
  refine hQ _ _ _ (aj aC (fun g => rfl) ?_)
  conv => whnf
 refine rg 0 ?_
 refine aG hj1 (fun hc1 hj1 => ?_) (fun hc1 hj1 => ?_)
 ·cases hj1
  exact hR1 _ _ (li (.u2 (.s (.u8 (.u4 (.u2 .n))))))
 refine aG hj1 (fun hc2 hj1 => ?_) (fun hc2 hj1 => ?_)
 ·cases hj1
  exact hR1 _ _ (li (.u2 (.s (.u8 (.u4 (.u2 .n))))))
 refine aG hj1 (fun hc3 hj1 => ?_) (fun hc3 hj1 => ?_)
 ·cases hj1
  exact hR1 _ _ (li (.u2 (.s (.u8 (.u4 (.u2 .n))))))
 cases hj1
 exact hR1 _ _ (li (.u2 (.s (.u8 (.u4 (.u2 .n))))))
theorem dM (n : Nat) (p0 : Ty) (r : Ty × Bool) (h : dn n p0 = some r) : aA Tryz.prog 134 [aU p0] [] (.aZ [aU r.1, .bool r.2]) [] := by
 unfold dn at h
 refine ah true Tryz.func134 rfl (nt Tryz.ntmps134 rfl) fun Q hQ t ht => ?_
 conv at ht => whnf
 subst ht
 refine .q fun K1 k1 => rg 2 ?_
 refine k1 _ _ ?_
 refine .q fun K2 k2 => .q fun K3 k3 => rg 0 ?_
 refine k3 _ _ ?_
 refine .aB rfl h (fun hc1 h => ?_) (fun hc1 h => ?_)
 ·refine .q fun K4 k4 => rg 0 ?_
  refine k4 _ _ ?_
  refine .ret ?_
  have e9 := sj h
  subst e9
  refine hQ _ _ _ (aj aC (fun g => by simp) ?_)
  conv => whnf
  try rfl
 refine .skip ?_
 refine k2 _ _ ?_
 refine .q fun K5 k5 => rg 0 ?_
 obtain ⟨x1, hx1, h⟩ := ob h
 refine aI (l := p0.kids) (f := aF) (cs := [.i ((x1).kind), .str ((x1).name), aH ((x1).kids)]) hx1 (aL x1) rfl ?_
 refine k5 _ _ ?_
 refine .ret ?_
 have e9 := sj h
 subst e9
 refine hQ _ _ _ (aj aC (fun g => by simp) ?_)
 conv => whnf
 try rfl
theorem GK (n : Nat) (p0 : List Decl) (p1 : Str) (r : Ty × Bool) (h : lG n p0 p1 = some r) : aA Tryz.prog 135 [.flist (List.map bD p0), .str p1] [] (.aZ [aU r.1, .bool r.2]) [] := by
 unfold lG at h
 refine ah true Tryz.func135 rfl (nt Tryz.ntmps135 rfl) fun Q hQ t ht => ?_
 conv at ht => whnf
 subst ht
 refine .q fun K1 k1 => rg 1 ?_
 refine k1 _ _ ?_
 refine .q fun K2 k2 => ?_
 refine .block ?_
 obtain ⟨o1, ho1, h⟩ := ob h
 have hR1 : ∀ s2 : Unit, o1 = .nx s2 → ∀ t9 h9, Le 0 t9 h9 (u4 (.ptr 0 0 :: (u16 (u2 [])))) [.box [.i 0, .str ([] : Str), .slice (List.map aF ([] : List Ty)) .nils]] → K2 t9 h9 := by
  intro s2 ho
  subst ho
  dsimp only [LR.el] at h
  intro t9 h9 hw
  refine k2 _ _ (AW.le hw ?_)
  refine .q fun K3 k3 => rg 0 ?_
  refine k3 _ _ ?_
  refine .ret ?_
  have e9 := sj h
  subst e9
  refine hQ _ _ _ (aj aC (fun g => by simp) ?_)
  conv => whnf
  try rfl
 refine .loopS (iI n p1) (fun (s1 : List Decl) => (.flist (List.map bD s1) :: (.str p1 :: (u2 (.ptr 0 0 :: (u16 (u2 []))))))) (fun (s1 : List Decl) => [.box [.i 0, .str ([] : Str), .slice (List.map aF ([] : List Ty)) .nils]]) ho1 (fun _ => rfl) (li (.s (.s (.u2 (.s (.u16 (.u2 .n))))))) ?_
 intro n1 s1 hs1 KL1 hKL1
 unfold iI at hs1
 refine .q fun K4 k4 => .q fun K5 k5 => rg 0 ?_
 refine alU (l := s1) (f := bD) ?_
 refine k5 _ _ ?_
 refine .aB rfl hs1 (fun hc1 hs1 => ?_) (fun hc1 hs1 => ?_)
 ·refine .skip ?_
  refine k4 _ _ ?_
  refine .q fun K6 k6 => ?_
  refine .block ?_
  refine .q fun K7 k7 => rg 0 ?_
  obtain ⟨x1, hx1, hs1⟩ := ob hs1
  refine Yf (f := bD) (cells := [.str ((x1.1).name), .i (((x1.1).ty).kind), .str (((x1.1).ty).name), aH (((x1.1).ty).kids), .flist (List.map bD (x1.2))]) hx1 rfl ?_
  refine k7 _ _ ?_
  refine .aB rfl hs1 (fun hc2 hs1 => ?_) (fun hc2 hs1 => ?_)
  ·refine .q fun K8 k8 => rg 0 ?_
   obtain ⟨x2, hx2, hs1⟩ := ob hs1
   refine Yf (f := bD) (cells := [.str ((x2.1).name), .i (((x2.1).ty).kind), .str (((x2.1).ty).name), aH (((x2.1).ty).kids), .flist (List.map bD (x2.2))]) hx2 rfl ?_
   refine k8 _ _ ?_
   refine .ret ?_
   have e9 := sj hs1
   subst e9
   dsimp only [LR.el] at h
   have e9 := sj h
   subst e9
   refine hQ _ _ _ (aj aC (fun g => by simp) ?_)
   conv => whnf
   try rfl
  refine .skip ?_
  refine k6 _ _ ?_
  refine rg 0 ?_
  obtain ⟨x3, hx3, hs1⟩ := ob hs1
  refine Yf (f := bD) (cells := [.str ((x3.1).name), .i (((x3.1).ty).kind), .str (((x3.1).ty).name), aH (((x3.1).ty).kids), .flist (List.map bD (x3.2))]) hx3 rfl ?_
  exact hKL1 _ _ _ hs1 (li (.s (.s (.u2 (.s (.u16 (.u2 .n)))))))
 refine .exit ?_
 exact hR1 _ (sj hs1).symm _ _ (li (.u4 (.s (.u16 (.u2 .n)))))
end Abs
end Go.Proofs.YtiiaccpcoclklaaGreat
