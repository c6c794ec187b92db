/-
  Contracts of Go functions (printed). Conditions: none.
-/
import Derived.KernelRfl
import Derived.Test.YtiiaccpcoclklaaGreatCT8x5a566f
set_option linter.unusedSimpArgs false
set_option linter.unusedVariables false
namespace Go.Proofs.YtiiaccpcoclklaaGreat
namespace Abs
open Go Go.Proofs
set_option maxRecDepth 100000
set_option maxHeartbeats 40000000
theorem JG (n : Nat) (r : Unit) (h : Er n = some r) : ak Tryz.prog 208 [.func 227 []] [] (.func 263 [.eptr [.func 227 []]]) [] := by
 unfold Er at h
 refine ah false Tryz.func208 rfl (nt Tryz.ntmps208 rfl) fun Q hQ t ht => ?_
 conv at ht => whnf
 subst ht
 refine .q fun K1 k1 => rg 1 ?_
 refine k1 _ _ ?_
 refine .q fun K2 k2 => rg 0 ?_
 refine k2 _ _ ?_
 refine .ret ?_
 have e9 := sj h
 subst e9
 refine hQ _ _ _ (dI (u2 (.func 263 [.eptr [.func 227 []]] :: (.unk :: []))) [] (wk [] (.u2 (.cons (.func' (.cons (.wS rfl rfl (.cons (.func' .nil) .nil)) .nil)) (.u .nil))) .nil rfl) (bP aD [] rfl .nil ?_))
 conv => whnf
 first | rfl | (simp; done) | (simp; rfl) | (simp; constructor <;> rfl)
theorem J8 (n : Nat) (r : Unit) (h : Eh n = some r) : ak Tryz.prog 208 [.func 228 []] [] (.func 263 [.eptr [.func 228 []]]) [] := by
 unfold Eh at h
 refine ah false Tryz.func208 rfl (nt Tryz.ntmps208 rfl) fun Q hQ t ht => ?_
 conv at ht => whnf
 subst ht
 refine .q fun K1 k1 => rg 1 ?_
 refine k1 _ _ ?_
 refine .q fun K2 k2 => rg 0 ?_
 refine k2 _ _ ?_
 refine .ret ?_
 have e9 := sj h
 subst e9
 refine hQ _ _ _ (dI (u2 (.func 263 [.eptr [.func 228 []]] :: (.unk :: []))) [] (wk [] (.u2 (.cons (.func' (.cons (.wS rfl rfl (.cons (.func' .nil) .nil)) .nil)) (.u .nil))) .nil rfl) (bP aD [] rfl .nil ?_))
 conv => whnf
 first | rfl | (simp; done) | (simp; rfl) | (simp; constructor <;> rfl)
theorem JO (n : Nat) (r : Unit) (h : Ep n = some r) : ak Tryz.prog 208 [.func 229 []] [] (.func 263 [.eptr [.func 229 []]]) [] := by
 unfold Ep at h
 refine ah false Tryz.func208 rfl (nt Tryz.ntmps208 rfl) fun Q hQ t ht => ?_
 conv at ht => whnf
 subst ht
 refine .q fun K1 k1 => rg 1 ?_
 refine k1 _ _ ?_
 refine .q fun K2 k2 => rg 0 ?_
 refine k2 _ _ ?_
 refine .ret ?_
 have e9 := sj h
 subst e9
 refine hQ _ _ _ (dI (u2 (.func 263 [.eptr [.func 229 []]] :: (.unk :: []))) [] (wk [] (.u2 (.cons (.func' (.cons (.wS rfl rfl (.cons (.func' .nil) .nil)) .nil)) (.u .nil))) .nil rfl) (bP aD [] rfl .nil ?_))
 conv => whnf
 first | rfl | (simp; done) | (simp; rfl) | (simp; constructor <;> rfl)
theorem aat (n : Nat) (r : Unit) (h : Ul n = some r) : ak Tryz.prog 131 [] [] (.agg (dD ++ [])) [] := by
 unfold Ul at h
 refine ah false Tryz.func131 rfl (nt Tryz.ntmps131 rfl) fun Q hQ t ht => ?_
 conv at ht => whnf
 subst ht
 refine .q fun K1 k1 => rg 1 ?_
 refine k1 _ _ ?_
 refine .q fun K2 k2 => rg 0 ?_
 refine au (oo 0 _ rfl) Ew .nil (fun g => rfl) (fun g => by simp) ?_
 refine cp (Av 0 2 (Ty.mk 2 ([] : Str) ([])) _ rfl) RI (.cons (.same _) (.cons (.same _) .nil)) ?_
 refine au (rY 0 _ rfl) LW .nil (fun g => rfl) (fun g => by simp) ?_
 refine cp (Av 0 1 (Ty.mk 1 ([] : Str) ([])) _ rfl) RI (.cons (.same _) (.cons (.same _) .nil)) ?_
 refine au (oo 0 _ rfl) Ew .nil (fun g => rfl) (fun g => by simp) ?_
 refine cp (Av 0 1 (Ty.mk 2 ([] : Str) ([])) _ rfl) RI (.cons (.same _) (.cons (.same _) .nil)) ?_
 refine k2 _ _ ?_
 refine .q fun K3 k3 => rg 0 ?_
 refine k3 _ _ ?_
 refine .q fun K4 k4 => rg 0 ?_
 refine cp (adv 0 _ rfl) aio (.cons (.same _) .nil) ?_
 refine k4 _ _ ?_
 refine .q fun K5 k5 => rg 0 ?_
 refine k5 _ _ ?_
 refine .q fun K6 k6 => rg 0 ?_
 refine cp (Nu 0 _ rfl) Cz (.cons (.same _) .nil) ?_
 refine k6 _ _ ?_
 refine .q fun K7 k7 => rg 0 ?_
 refine cp (X9 0 _ rfl) abC (.cons (.same _) .nil) ?_
 refine k7 _ _ ?_
 refine .q fun K8 k8 => rg 0 ?_
 refine au (oo 0 _ rfl) Ew .nil (fun g => rfl) (fun g => by simp) ?_
 refine cp (zF 0 (Ty.mk 2 ([] : Str) ([])) _ rfl) aa4 (.cons (.same _) .nil) ?_
 refine au (oo 0 _ rfl) Ew .nil (fun g => rfl) (fun g => by simp) ?_
 refine cp (zF 0 (Ty.mk 2 ([] : Str) ([])) _ rfl) aa4 (.cons (.same _) .nil) ?_
 refine au (rY 0 _ rfl) LW .nil (fun g => rfl) (fun g => by simp) ?_
 refine cp (zF 0 (Ty.mk 1 ([] : Str) ([])) _ rfl) aa4 (.cons (.same _) .nil) ?_
 refine cp (Ls 0 _ rfl) aax (.cons (.same _) .nil) ?_
 refine cp (Ls 0 _ rfl) aax (.cons (.same _) .nil) ?_
 refine cp (V5 0 _ rfl) aax (.cons (.same _) .nil) ?_
 refine cp (aaH 0 _ rfl) Rl (.cons (.same _) .nil) ?_
 refine au (rY 0 _ rfl) LW .nil (fun g => rfl) (fun g => by simp) ?_
 refine cp (iR 0 (Ty.mk 1 ([] : Str) ([])) _ rfl) wF (.cons (.same _) .nil) ?_
 refine cp (Av 0 1 (Ty.mk 5 ([] : Str) ([(Ty.mk 1 ([] : Str) ([]))])) _ rfl) RI (.cons (.same _) (.cons (.same _) .nil)) ?_
 refine cp (Ct 0 _ rfl) Rl (.cons (.same _) .nil) ?_
 refine cp (Ct 0 _ rfl) Rl (.cons (.same _) .nil) ?_
 refine cp (Ct 0 _ rfl) Rl (.cons (.same _) .nil) ?_
 refine cp (Yp 0 _ rfl) aio (.cons (.same _) .nil) ?_
 refine cp (JC 0 _ rfl) Cz (.cons (.same _) .nil) ?_
 refine cp (Jy 0 _ rfl) Cz (.cons (.same _) .nil) ?_
 refine cp (TM 0 _ rfl) abC (.cons (.same _) .nil) ?_
 refine cp (TP 0 _ rfl) abC (.cons (.same _) .nil) ?_
 refine cp (JL 0 _ rfl) Cz (.cons (.same _) .nil) ?_
 refine cp (Ko 0 _ rfl) Cz (.cons (.same _) .nil) ?_
 refine cp (JG 0 _ rfl) Cz (.cons (.same _) .nil) ?_
 refine cp (J8 0 _ rfl) Cz (.cons (.same _) .nil) ?_
 refine cp (JO 0 _ rfl) Cz (.cons (.same _) .nil) ?_
 refine k8 _ _ ?_
 refine .ret ?_
 have e9 := sj h
 subst e9
 refine hQ _ _ _ (aj aD (fun g => by simp) ?_)
 conv => whnf
 try rfl
theorem MQ (n : Nat) (p0 : Env) (r : (List (Str × Ty)) × (List (Str × Bool))) (h : rU n p0 = some r) : ak Tryz.prog 67 [dz p0] [] (.ptr 0 0) [.box (.mapr 1 :: (.mapr 2 :: (dD ++ (.psl 3 1 (List.length ([] : List Int)) :: [])))), .mp (fP r.1), .mp (eX r.2), .arr 1 (List.map encI ([] : List Int))] := by
 unfold rU at h
 refine ah false Tryz.func67 rfl (nt Tryz.ntmps67 rfl) fun Q hQ t ht => ?_
 conv at ht => whnf
 subst ht
 refine .q fun K1 k1 => rg 1 ?_
 refine k1 _ _ ?_
 refine .q fun K2 k2 => rg 3 ?_
 obtain ⟨x1, hx1, h⟩ := ob h
 refine bM [] [1] [dz p0] [dz p0] (Jr _ _ _ hx1) ahZ rfl .nil (by simp; try decide) (.cons (.same _) .nil) (rn := .mapr 1) (by simp; try decide) (Hn := [.mp (fP x1)]) ((bI (congrArg AObj.mp (dS (f := aV) (fun g x => by simp) _ _)) rfl)) ?_
 refine au (aat 0 _ rfl) aoq .nil (fun g => rfl) (fun g => by simp) ?_
 refine k2 _ _ ?_
 refine .q fun K3 k3 => .q fun K4 k4 => rg 0 ?_
 refine aW (l := p0.carriers) (f := aL) ?_
 refine k4 _ _ ?_
 refine .block ?_
 obtain ⟨o1, ho1, h⟩ := ob h
 have hR1 : ∀ s2 : List (Str × Bool), o1 = .nx s2 → ∀ t9 h9, Le 0 t9 h9 (u2 (.unk :: (.ptr 0 0 :: (u16 (u4 (u2 (.unk :: []))))))) [.box (.mapr 1 :: (.mapr 2 :: (dD ++ (.slice (List.map encI ([] : List Int)) .nils :: [])))), .mp (fP x1), .mp (eX s2)] → K3 t9 h9 := by
  intro s2 ho
  subst ho
  dsimp only [LR.el] at h
  intro t9 h9 hw
  refine k3 _ _ (AW.le hw ?_)
  refine .q fun K5 k5 => rg 0 ?_
  refine k5 _ _ ?_
  refine .ret ?_
  have e9 := sj h
  subst e9
  refine hQ _ _ _ (dI (u2 (.ptr 0 0 :: (u16 (u8 [])))) [.box (.mapr 1 :: (.mapr 2 :: (dD ++ (.psl 3 1 (List.length ([] : List Int)) :: [])))), .mp (fP x1), .mp (eX s2), .arr 1 (List.map encI ([] : List Int))] (wk [some 0, some 1, some 2, none] (.u2 (.c rfl (.u16 (.u8 .nil)))) (.b rfl (.c rfl (.c rfl (.dK aP (.cons (.nilP _ _) .nil)))) (.old .mT (.old .mB (.w rfl .nil)))) rfl) (bP aD [0, 1, 2, 3] rfl (.cons (by simp only [cO, ren, bW, bK, dJ, bN, aQ, aZ, bS, aB, aN, aA, aG, aP]; try rfl) (.cons (congrArg AObj.mp (dS (f := aV) (fun g x => by simp) _ _)) (.cons (congrArg AObj.mp (dS (f := (fun (x : Bool) => .bool x)) (fun g x => rfl) _ _)) (.cons (congrArg (AObj.arr _) (aQ _ _)) .nil)))) ?_))
  conv => whnf
  first | rfl | (simp; done) | (simp; rfl) | (simp; constructor <;> rfl)
 refine .loopS (oG n p0) (fun (s1 : Int × (List (Str × Bool))) => (u2 (.unk :: (.ptr 0 0 :: (u8 (.unk :: (bT p0.carriers :: (.i (p0.carriers.length : Int) :: (.i s1.1 :: (u8 (u2 (.unk :: [])))))))))))) (fun (s1 : Int × (List (Str × Bool))) => [.box (.mapr 1 :: (.mapr 2 :: (dD ++ (.slice (List.map encI ([] : List Int)) .nils :: [])))), .mp (fP x1), .mp (eX s1.2)]) ho1 (fun _ => rfl) (wk [some 3, some 1, some 2] (.u2 (.u (.c rfl (.u8 (.u (.e aA (.c rfl (.c rfl (.u8 (.u2 (.u .nil))))))))))) (.b rfl (.c rfl (.c rfl (.dK aP (.c rfl .nil)))) (.old .mT (.old .mB .nil))) rfl) ?_
 intro n1 s1 hs1 KL1 hKL1
 unfold oG at hs1
 refine .q fun K6 k6 => rg 0 ?_
 refine k6 _ _ ?_
 refine .q fun K7 k7 => ?_
 refine .aC rfl hs1 (fun hc1 hs1 => ?_) (fun hc1 hs1 => ?_)
 ·refine .skip ?_
  refine k7 _ _ ?_
  refine .q fun K8 k8 => ?_
  refine .block ?_
  refine .q fun K9 k9 => rg 1 ?_
  obtain ⟨x2, hx2, hs1⟩ := ob hs1
  refine aJ (l := p0.carriers) (f := aL) (cs := [.str ((x2).name), bQ ((x2).elems)]) hx2 (rfl) rfl ?_
  refine k9 _ _ ?_
  refine rg 0 ?_
  obtain ⟨x3, hx3, hs1⟩ := ob hs1
  refine Lb (m := s1.2) (f := (fun (x : Bool) => .bool x)) hx3 rfl ?_
  refine ⟨rfl, ?_⟩
  refine k8 _ _ ?_
  refine .know 15 0 fun hv1 => ?_
  refine .know 13 0 fun hv2 => ?_
  refine rg 0 ?_
  refine ⟨(s1.1 + 1), by have := dn hv1; have := eP hv2; have h8 := of_decide_eq_true hc1; exact bG (by omega) (by omega), ?_⟩
  exact hKL1 _ _ _ hs1 (wk [some 0, some 1, some 2] (.u2 (.u (.c rfl (.u8 (.u (.e aA (.c rfl (.c rfl (.u8 (.u2 (.u .nil))))))))))) (.b rfl (.c rfl (.c rfl (.dK aP (.c rfl .nil)))) (.old .mT (.old .mB .nil))) rfl)
 refine .exit ?_
 exact hR1 _ (sj hs1).symm _ _ (li (.u2 (.u (.s (.u16 (.u4 (.u2 (.u .n))))))))
theorem UU (n : Nat) (p0 : Int) (r : Bool) (h : uL n p0 = some r) : ak Tryz.prog 133 [.i p0] [] (.bool r) [] := by
 unfold uL at h
 refine ah true Tryz.func133 rfl (nt Tryz.ntmps133 rfl) fun Q hQ t ht => ?_
 conv at ht => whnf
 subst ht
 refine .q fun K1 k1 => rg 0 ?_
 refine k1 _ _ ?_
 refine .q fun K2 k2 => ?_
 obtain ⟨s1, hj1, h⟩ := ob h
 have hR1 : ∀ t9 h9, Le 0 t9 h9 (u2 (.bool s1 :: (u8 (u4 (u2 []))))) [] → K2 t9 h9 := by
  intro t9 h9 hw
  refine k2 _ _ (AW.le hw ?_)
  clear hw
  refine .ret ?_
  have e9 := sj h
  subst e9
  refine hQ _ _ _ (aj aD (fun g => rfl) ?_)
  conv => whnf
 refine rg 0 ?_
 refine aH hj1 (fun hc1 hj1 => ?_) (fun hc1 hj1 => ?_)
 ·cases hj1
  exact hR1 _ _ (li (.u2 (.s (.u8 (.u4 (.u2 .n))))))
 refine aH hj1 (fun hc2 hj1 => ?_) (fun hc2 hj1 => ?_)
 ·cases hj1
  exact hR1 _ _ (li (.u2 (.s (.u8 (.u4 (.u2 .n))))))
 refine aH hj1 (fun hc3 hj1 => ?_) (fun hc3 hj1 => ?_)
 ·cases hj1
  exact hR1 _ _ (li (.u2 (.s (.u8 (.u4 (.u2 .n))))))
 cases hj1
 exact hR1 _ _ (li (.u2 (.s (.u8 (.u4 (.u2 .n))))))
theorem eB (n : Nat) (p0 : Ty) (r : Ty × Bool) (h : dN n p0 = some r) : ak Tryz.prog 134 [aV p0] [] (.bq [aV r.1, .bool r.2]) [] := by
 unfold dN at h
 refine ah true Tryz.func134 rfl (nt Tryz.ntmps134 rfl) fun Q hQ t ht => ?_
 conv at ht => whnf
 subst ht
 refine .q fun K1 k1 => rg 2 ?_
 refine k1 _ _ ?_
 refine .q fun K2 k2 => .q fun K3 k3 => rg 0 ?_
 refine k3 _ _ ?_
 refine .aC rfl h (fun hc1 h => ?_) (fun hc1 h => ?_)
 ·refine .q fun K4 k4 => rg 0 ?_
  refine k4 _ _ ?_
  refine .ret ?_
  have e9 := sj h
  subst e9
  refine hQ _ _ _ (aj aD (fun g => by simp) ?_)
  conv => whnf
  try rfl
 refine .skip ?_
 refine k2 _ _ ?_
 refine .q fun K5 k5 => rg 0 ?_
 obtain ⟨x1, hx1, h⟩ := ob h
 refine aJ (l := p0.kids) (f := aK) (cs := [.i ((x1).kind), .str ((x1).name), aI ((x1).kids)]) hx1 (aR x1) rfl ?_
 refine k5 _ _ ?_
 refine .ret ?_
 have e9 := sj h
 subst e9
 refine hQ _ _ _ (aj aD (fun g => by simp) ?_)
 conv => whnf
 try rfl
theorem JN (n : Nat) (p0 : List Decl) (p1 : Str) (r : Ty × Bool) (h : mJ n p0 p1 = some r) : ak Tryz.prog 135 [.flist (List.map aO p0), .str p1] [] (.bq [aV r.1, .bool r.2]) [] := by
 unfold mJ at h
 refine ah true Tryz.func135 rfl (nt Tryz.ntmps135 rfl) fun Q hQ t ht => ?_
 conv at ht => whnf
 subst ht
 refine .q fun K1 k1 => rg 1 ?_
 refine k1 _ _ ?_
 refine .q fun K2 k2 => ?_
 refine .block ?_
 obtain ⟨o1, ho1, h⟩ := ob h
 have hR1 : ∀ s2 : Unit, o1 = .nx s2 → ∀ t9 h9, Le 0 t9 h9 (u4 (.ptr 0 0 :: (u16 (u2 [])))) [.box [.i 0, .str ([] : Str), .slice (List.map aK ([] : List Ty)) .nils]] → K2 t9 h9 := by
  intro s2 ho
  subst ho
  dsimp only [LR.el] at h
  intro t9 h9 hw
  refine k2 _ _ (AW.le hw ?_)
  refine .q fun K3 k3 => rg 0 ?_
  refine k3 _ _ ?_
  refine .ret ?_
  have e9 := sj h
  subst e9
  refine hQ _ _ _ (aj aD (fun g => by simp) ?_)
  conv => whnf
  try rfl
 refine .loopS (iY n p1) (fun (s1 : List Decl) => (.flist (List.map aO s1) :: (.str p1 :: (u2 (.ptr 0 0 :: (u16 (u2 []))))))) (fun (s1 : List Decl) => [.box [.i 0, .str ([] : Str), .slice (List.map aK ([] : List Ty)) .nils]]) ho1 (fun _ => rfl) (li (.s (.s (.u2 (.s (.u16 (.u2 .n))))))) ?_
 intro n1 s1 hs1 KL1 hKL1
 unfold iY at hs1
 refine .q fun K4 k4 => .q fun K5 k5 => rg 0 ?_
 refine aqx (l := s1) (f := aO) ?_
 refine k5 _ _ ?_
 refine .aC rfl hs1 (fun hc1 hs1 => ?_) (fun hc1 hs1 => ?_)
 ·refine .skip ?_
  refine k4 _ _ ?_
  refine .q fun K6 k6 => ?_
  refine .block ?_
  refine .q fun K7 k7 => rg 0 ?_
  obtain ⟨x1, hx1, hs1⟩ := ob hs1
  refine aaO (f := aO) (cells := [.str ((x1.1).name), .i (((x1.1).ty).kind), .str (((x1.1).ty).name), aI (((x1.1).ty).kids), .flist (List.map aO (x1.2))]) hx1 rfl ?_
  refine k7 _ _ ?_
  refine .aC rfl hs1 (fun hc2 hs1 => ?_) (fun hc2 hs1 => ?_)
  ·refine .q fun K8 k8 => rg 0 ?_
   obtain ⟨x2, hx2, hs1⟩ := ob hs1
   refine aaO (f := aO) (cells := [.str ((x2.1).name), .i (((x2.1).ty).kind), .str (((x2.1).ty).name), aI (((x2.1).ty).kids), .flist (List.map aO (x2.2))]) hx2 rfl ?_
   refine k8 _ _ ?_
   refine .ret ?_
   have e9 := sj hs1
   subst e9
   dsimp only [LR.el] at h
   have e9 := sj h
   subst e9
   refine hQ _ _ _ (aj aD (fun g => by simp) ?_)
   conv => whnf
   try rfl
  refine .skip ?_
  refine k6 _ _ ?_
  refine rg 0 ?_
  obtain ⟨x3, hx3, hs1⟩ := ob hs1
  refine aaO (f := aO) (cells := [.str ((x3.1).name), .i (((x3.1).ty).kind), .str (((x3.1).ty).name), aI (((x3.1).ty).kids), .flist (List.map aO (x3.2))]) hx3 rfl ?_
  exact hKL1 _ _ _ hs1 (li (.s (.s (.u2 (.s (.u16 (.u2 .n)))))))
 refine .exit ?_
 exact hR1 _ (sj hs1).symm _ _ (li (.u4 (.s (.u16 (.u2 .n)))))
end Abs
end Go.Proofs.YtiiaccpcoclklaaGreat
