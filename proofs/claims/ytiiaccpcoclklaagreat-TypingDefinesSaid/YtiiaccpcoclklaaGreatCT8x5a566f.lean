/-
  Contracts of Go functions (printed). Conditions: none.
-/
import Derived.KernelRfl
import Derived.Test.YtiiaccpcoclklaaGreatCT7x35d0bb
set_option linter.unusedSimpArgs false
set_option linter.unusedVariables false
namespace Go.Proofs.YtiiaccpcoclklaaGreat
namespace Abs
open Go Go.Proofs
set_option maxRecDepth 100000
set_option maxHeartbeats 40000000
theorem Jr (n : Nat) (p0 : Env) (r : List (Str × Ty)) (h : wB n p0 = some r) : ak Tryz.prog 110 [dz p0] [] (.mapr 0) [.mp (fP r)] := by
 unfold wB at h
 refine ah false Tryz.func110 rfl (nt Tryz.ntmps110 rfl) fun Q hQ t ht => ?_
 conv at ht => whnf
 subst ht
 refine .q fun K1 k1 => rg 1 ?_
 refine k1 _ _ ?_
 refine .q fun K2 k2 => rg 1 ?_
 refine k2 _ _ ?_
 refine .q fun K3 k3 => .q fun K4 k4 => rg 0 ?_
 refine aW (l := p0.carriers) (f := aL) ?_
 refine k4 _ _ ?_
 refine .block ?_
 obtain ⟨o1, ho1, h⟩ := ob h
 have hR1 : ∀ s2 : List (Str × Ty), o1 = .nx s2 → ∀ t9 h9, Le 0 t9 h9 (.unk :: (.ptr 0 0 :: (.unk :: (.mapr 1 :: (u32 (u16 (.unk :: []))))))) [.box [bT p0.carriers, bU p0.names], .mp (fP s2)] → K3 t9 h9 := by
  intro s2 ho
  subst ho
  dsimp only [LR.el] at h
  intro t9 h9 hw
  refine k3 _ _ (AW.le hw ?_)
  refine .q fun K5 k5 => .q fun K6 k6 => rg 0 ?_
  refine aW (l := p0.names) (f := aO) ?_
  refine k6 _ _ ?_
  refine .block ?_
  obtain ⟨o2, ho2, h⟩ := ob h
  have hR2 : ∀ s4 : List (Str × Ty), o2 = .nx s4 → ∀ t9 h9, Le 0 t9 h9 (u2 (.unk :: (.mapr 0 :: (u32 (u16 (.unk :: [])))))) [.mp (fP s4)] → K5 t9 h9 := by
   intro s4 ho
   subst ho
   dsimp only [LR.el] at h
   intro t9 h9 hw
   refine k5 _ _ (AW.le hw ?_)
   refine .q fun K7 k7 => rg 0 ?_
   refine k7 _ _ ?_
   refine .ret ?_
   have e9 := sj h
   subst e9
   refine hQ _ _ _ (dI (u2 (.mapr 0 :: (u32 (u16 (u2 []))))) [.mp (fP s4)] (wk [some 0] (.u2 (.c rfl (.u32 (.u16 (.u2 .nil))))) (.old .mT .nil) rfl) (bP aD [0] rfl (.cons (congrArg AObj.mp (dS (f := aV) (fun g x => by simp) _ _)) .nil) ?_))
   conv => whnf
   first | rfl | (simp; done) | (simp; rfl) | (simp; constructor <;> rfl)
  refine .loopS (uU n p0) (fun (s3 : Int × (List (Str × Ty))) => (u2 (.unk :: (.mapr 0 :: (u32 (u4 (bU p0.names :: (.i (p0.names.length : Int) :: (.i s3.1 :: (u8 (u2 []))))))))))) (fun (s3 : Int × (List (Str × Ty))) => [.mp (fP s3.2)]) ho2 (fun _ => rfl) (wk [some 1] (.u2 (.u (.c rfl (.u32 (.u4 (.e aG (.c rfl (.c rfl (.u8 (.u2 .nil)))))))))) (.old .mT .nil) rfl) ?_
  intro n2 s3 hs2 KL2 hKL2
  unfold uU at hs2
  refine .q fun K8 k8 => rg 0 ?_
  refine k8 _ _ ?_
  refine .q fun K9 k9 => ?_
  refine .aC rfl hs2 (fun hc1 hs2 => ?_) (fun hc1 hs2 => ?_)
  ·refine .skip ?_
   refine k9 _ _ ?_
   refine .q fun K10 k10 => ?_
   refine .block ?_
   refine .q fun K11 k11 => rg 1 ?_
   obtain ⟨x1, hx1, hs2⟩ := ob hs2
   refine aJ (l := p0.names) (f := aO) (cs := [.str ((x1).name), .i (((x1).ty).kind), .str (((x1).ty).name), aI (((x1).ty).kids)]) hx1 (rfl) rfl ?_
   refine k11 _ _ ?_
   refine rg 0 ?_
   obtain ⟨x2, hx2, hs2⟩ := ob hs2
   refine Lb (m := s3.2) (f := aV) hx2 rfl ?_
   refine k10 _ _ ?_
   refine .know 42 0 fun hv1 => ?_
   refine .know 40 0 fun hv2 => ?_
   refine rg 0 ?_
   refine ⟨(s3.1 + 1), by have := dn hv1; have := eP hv2; have h8 := of_decide_eq_true hc1; exact bG (by omega) (by omega), ?_⟩
   exact hKL2 _ _ _ hs2 (wk [some 0] (.u2 (.u (.c rfl (.u32 (.u4 (.e aG (.c rfl (.c rfl (.u8 (.u2 .nil)))))))))) (.old .mT .nil) rfl)
  refine .exit ?_
  exact hR2 _ (sj hs2).symm _ _ (li (.u2 (.u (.s (.u16 (.u16 (.u16 (.u .n))))))))
 refine .loopS (vv n p0) (fun (s1 : Int × (List (Str × Ty))) => (.unk :: (.ptr 0 0 :: (.unk :: (.mapr 1 :: (u8 (.unk :: (bT p0.carriers :: (.i (p0.carriers.length : Int) :: (.i s1.1 :: (u32 (u4 (.unk :: []))))))))))))) (fun (s1 : Int × (List (Str × Ty))) => [.box [bT p0.carriers, bU p0.names], .mp (fP s1.2)]) ho1 (fun _ => rfl) (li (.u (.s (.u (.s (.u8 (.u (.s (.s (.s (.u16 (.u16 (.u4 (.u .n)))))))))))))) ?_
 intro n1 s1 hs1 KL1 hKL1
 unfold vv at hs1
 refine .q fun K12 k12 => rg 0 ?_
 refine k12 _ _ ?_
 refine .q fun K13 k13 => ?_
 refine .aC rfl hs1 (fun hc2 hs1 => ?_) (fun hc2 hs1 => ?_)
 ·refine .skip ?_
  refine k13 _ _ ?_
  refine .q fun K14 k14 => ?_
  refine .block ?_
  refine .q fun K15 k15 => rg 1 ?_
  obtain ⟨x3, hx3, hs1⟩ := ob hs1
  refine aJ (l := p0.carriers) (f := aL) (cs := [.str ((x3).name), bQ ((x3).elems)]) hx3 (rfl) rfl ?_
  refine k15 _ _ ?_
  refine .q fun K16 k16 => rg 1 ?_
  refine k16 _ _ ?_
  refine .q fun K17 k17 => rg 0 ?_
  refine cp (iR 0 (Ty.mk 3 x3.name ([])) _ rfl) wF (.cons (.agg' (.cons (.same _) (.cons (.same _) (.cons (.share _ _) .nil)))) .nil) ?_
  obtain ⟨x4, hx4, hs1⟩ := ob hs1
  refine Lb (m := s1.2) (f := aV) hx4 rfl ?_
  refine ⟨rfl, ?_⟩
  refine k17 _ _ ?_
  refine .q fun K18 k18 => rg 0 ?_
  refine aW (l := x3.elems) (f := encS) ?_
  refine k18 _ _ ?_
  refine .block ?_
  obtain ⟨o3, ho3, hs1⟩ := ob hs1
  have hR3 : ∀ s6 : List (Str × Ty), o3 = .nx s6 → ∀ t9 h9, Le 0 t9 h9 (.unk :: (.ptr 0 0 :: (.unk :: (.mapr 1 :: (u8 (.unk :: (bT p0.carriers :: (.i (p0.carriers.length : Int) :: (.i s1.1 :: (u32 (u4 (.unk :: [])))))))))))) [.box [bT p0.carriers, bU p0.names], .mp (fP s6)] → K14 t9 h9 := by
   intro s6 ho
   subst ho
   dsimp only [LR.el] at hs1
   intro t9 h9 hw
   refine k14 _ _ (AW.le hw ?_)
   refine .know 15 0 fun hv3 => ?_
   refine .know 13 0 fun hv4 => ?_
   refine rg 0 ?_
   refine ⟨(s1.1 + 1), by have := dn hv3; have := eP hv4; have h8 := of_decide_eq_true hc2; exact bG (by omega) (by omega), ?_⟩
   exact hKL1 _ _ _ hs1 (li (.u (.s (.u (.s (.u8 (.u (.s (.s (.s (.u16 (.u16 (.u4 (.u .n))))))))))))))
  refine .loopS (mI n x3) (fun (s5 : Int × (List (Str × Ty))) => (.unk :: (.ptr 0 0 :: (.unk :: (.mapr 1 :: (u2 (.ptr 2 0 :: (u4 (u2 (bT p0.carriers :: (.i (p0.carriers.length : Int) :: (.i s1.1 :: (u8 (u4 (bQ x3.elems :: (.i (x3.elems.length : Int) :: (.i s5.1 :: (u16 (u4 (u2 [])))))))))))))))))))) (fun (s5 : Int × (List (Str × Ty))) => [.box [bT p0.carriers, bU p0.names], .mp (fP s5.2), .box [.i 3, .str x3.name, .slice (List.map aK ([] : List Ty)) .nils]]) ho3 (fun _ => rfl) (wk [some 0, some 1, some 3] (.u (.c rfl (.u (.c rfl (.u2 (.c rfl (.u4 (.u2 (.e aA (.c rfl (.c rfl (.u8 (.u4 (.e aZ (.c rfl (.c rfl (.u16 (.u4 (.u2 .nil))))))))))))))))))) (.b rfl (.e aA (.e aG .nil)) (.old .mT (.b rfl (.c rfl (.c rfl (.c rfl .nil))) .nil))) rfl) ?_
  intro n3 s5 hs3 KL3 hKL3
  unfold mI at hs3
  refine .q fun K19 k19 => rg 0 ?_
  refine k19 _ _ ?_
  refine .q fun K20 k20 => ?_
  refine .aC rfl hs3 (fun hc3 hs3 => ?_) (fun hc3 hs3 => ?_)
  ·refine .skip ?_
   refine k20 _ _ ?_
   refine .q fun K21 k21 => ?_
   refine .block ?_
   refine .q fun K22 k22 => rg 0 ?_
   obtain ⟨x5, hx5, hs3⟩ := ob hs3
   refine aJ (l := x3.elems) (f := encS) (cs := [.str (x5)]) hx5 (rfl) rfl ?_
   refine k22 _ _ ?_
   refine rg 0 ?_
   obtain ⟨x6, hx6, hs3⟩ := ob hs3
   refine Lb (m := s5.2) (f := aV) hx6 rfl ?_
   refine k21 _ _ ?_
   refine .know 30 0 fun hv5 => ?_
   refine .know 28 0 fun hv6 => ?_
   refine rg 0 ?_
   refine ⟨(s5.1 + 1), by have := dn hv5; have := eP hv6; have h8 := of_decide_eq_true hc3; exact bG (by omega) (by omega), ?_⟩
   exact hKL3 _ _ _ hs3 (li (.u (.s (.u (.s (.u2 (.s (.u4 (.u2 (.s (.s (.s (.u8 (.u4 (.s (.s (.s (.u16 (.u4 (.u2 .n))))))))))))))))))))
  refine .exit ?_
  exact hR3 _ (sj hs3).symm _ _ (wk [some 0, some 1] (.u (.c rfl (.u (.c rfl (.u8 (.u (.e aA (.c rfl (.c rfl (.u32 (.u4 (.u .nil)))))))))))) (.b rfl (.e aA (.e aG .nil)) (.old .mT .nil)) rfl)
 refine .exit ?_
 exact hR1 _ (sj hs1).symm _ _ (li (.u (.s (.u (.s (.u16 (.u16 (.u16 (.u .n)))))))))
theorem oo (n : Nat) (r : Ty) (h : PG n = some r) : ak Tryz.prog 199 [] [] (aV r) [] := by
 unfold PG at h
 refine ah true Tryz.func199 rfl (nt Tryz.ntmps199 rfl) fun Q hQ t ht => ?_
 conv at ht => whnf
 subst ht
 refine .q fun K1 k1 => rg 1 ?_
 refine k1 _ _ ?_
 refine .q fun K2 k2 => rg 0 ?_
 refine k2 _ _ ?_
 refine .ret ?_
 have e9 := sj h
 subst e9
 refine hQ _ _ _ (aj aD (fun g => by simp) ?_)
 conv => whnf
 try rfl
theorem Av (n : Nat) (p0 : Int) (p1 : Ty) (r : Unit) (h : UD n p0 p1 = some r) : ak Tryz.prog 198 [.i p0, aV p1] [] (.func 259 [.eptr [.i p1.kind, .str p1.name, aI p1.kids], .eptr [.i p0]]) [] := by
 unfold UD at h
 refine ah false Tryz.func198 rfl (nt Tryz.ntmps198 rfl) fun Q hQ t ht => ?_
 conv at ht => whnf
 subst ht
 refine .q fun K1 k1 => rg 2 ?_
 refine k1 _ _ ?_
 refine .q fun K2 k2 => rg 0 ?_
 refine k2 _ _ ?_
 refine .ret ?_
 have e9 := sj h
 subst e9
 refine hQ _ _ _ (dI (u4 (.func 259 [.eptr [.i p1.kind, .str p1.name, aI p1.kids], .eptr [.i p0]] :: (.unk :: []))) [] (wk [] (.u4 (.cons (.func' (.cons (.wS rfl rfl (.c rfl (.c rfl (.e aB .nil)))) (.cons (.wS rfl rfl (.c rfl .nil)) .nil))) (.u .nil))) .nil rfl) (bP aD [] rfl .nil ?_))
 conv => whnf
 first | rfl | (simp; done) | (simp; rfl) | (simp; constructor <;> rfl)
theorem rY (n : Nat) (r : Ty) (h : LK n = some r) : ak Tryz.prog 200 [] [] (aV r) [] := by
 unfold LK at h
 refine ah true Tryz.func200 rfl (nt Tryz.ntmps200 rfl) fun Q hQ t ht => ?_
 conv at ht => whnf
 subst ht
 refine .q fun K1 k1 => rg 1 ?_
 refine k1 _ _ ?_
 refine .q fun K2 k2 => rg 0 ?_
 refine k2 _ _ ?_
 refine .ret ?_
 have e9 := sj h
 subst e9
 refine hQ _ _ _ (aj aD (fun g => by simp) ?_)
 conv => whnf
 try rfl
theorem adv (n : Nat) (r : Unit) (h : Yx n = some r) : ak Tryz.prog 203 [.func 204 []] [] (.func 262 [.eptr [.func 204 []]]) [] := by
 unfold Yx at h
 refine ah false Tryz.func203 rfl (nt Tryz.ntmps203 rfl) fun Q hQ t ht => ?_
 conv at ht => whnf
 subst ht
 refine .q fun K1 k1 => rg 1 ?_
 refine k1 _ _ ?_
 refine .q fun K2 k2 => rg 0 ?_
 refine k2 _ _ ?_
 refine .ret ?_
 have e9 := sj h
 subst e9
 refine hQ _ _ _ (dI (u2 (.func 262 [.eptr [.func 204 []]] :: (.unk :: []))) [] (wk [] (.u2 (.cons (.func' (.cons (.wS rfl rfl (.cons (.func' .nil) .nil)) .nil)) (.u .nil))) .nil rfl) (bP aD [] rfl .nil ?_))
 conv => whnf
 first | rfl | (simp; done) | (simp; rfl) | (simp; constructor <;> rfl)
theorem Nu (n : Nat) (r : Unit) (h : F7 n = some r) : ak Tryz.prog 208 [.func 209 []] [] (.func 263 [.eptr [.func 209 []]]) [] := by
 unfold F7 at h
 refine ah false Tryz.func208 rfl (nt Tryz.ntmps208 rfl) fun Q hQ t ht => ?_
 conv at ht => whnf
 subst ht
 refine .q fun K1 k1 => rg 1 ?_
 refine k1 _ _ ?_
 refine .q fun K2 k2 => rg 0 ?_
 refine k2 _ _ ?_
 refine .ret ?_
 have e9 := sj h
 subst e9
 refine hQ _ _ _ (dI (u2 (.func 263 [.eptr [.func 209 []]] :: (.unk :: []))) [] (wk [] (.u2 (.cons (.func' (.cons (.wS rfl rfl (.cons (.func' .nil) .nil)) .nil)) (.u .nil))) .nil rfl) (bP aD [] rfl .nil ?_))
 conv => whnf
 first | rfl | (simp; done) | (simp; rfl) | (simp; constructor <;> rfl)
theorem X9 (n : Nat) (r : Unit) (h : QZ n = some r) : ak Tryz.prog 210 [.func 211 []] [] (.func 264 [.eptr [.func 211 []]]) [] := by
 unfold QZ at h
 refine ah false Tryz.func210 rfl (nt Tryz.ntmps210 rfl) fun Q hQ t ht => ?_
 conv at ht => whnf
 subst ht
 refine .q fun K1 k1 => rg 1 ?_
 refine k1 _ _ ?_
 refine .q fun K2 k2 => rg 0 ?_
 refine k2 _ _ ?_
 refine .ret ?_
 have e9 := sj h
 subst e9
 refine hQ _ _ _ (dI (u2 (.func 264 [.eptr [.func 211 []]] :: (.unk :: []))) [] (wk [] (.u2 (.cons (.func' (.cons (.wS rfl rfl (.cons (.func' .nil) .nil)) .nil)) (.u .nil))) .nil rfl) (bP aD [] rfl .nil ?_))
 conv => whnf
 first | rfl | (simp; done) | (simp; rfl) | (simp; constructor <;> rfl)
theorem zF (n : Nat) (p0 : Ty) (r : Unit) (h : Jc n p0 = some r) : ak Tryz.prog 212 [aV p0] [] (.func 265 [.eptr [.i p0.kind, .str p0.name, aI p0.kids]]) [] := by
 unfold Jc at h
 refine ah false Tryz.func212 rfl (nt Tryz.ntmps212 rfl) fun Q hQ t ht => ?_
 conv at ht => whnf
 subst ht
 refine .q fun K1 k1 => rg 1 ?_
 refine k1 _ _ ?_
 refine .q fun K2 k2 => rg 0 ?_
 refine k2 _ _ ?_
 refine .ret ?_
 have e9 := sj h
 subst e9
 refine hQ _ _ _ (dI (u2 (.func 265 [.eptr [.i p0.kind, .str p0.name, aI p0.kids]] :: (.unk :: []))) [] (wk [] (.u2 (.cons (.func' (.cons (.wS rfl rfl (.c rfl (.c rfl (.e aB .nil)))) .nil)) (.u .nil))) .nil rfl) (bP aD [] rfl .nil ?_))
 conv => whnf
 first | rfl | (simp; done) | (simp; rfl) | (simp; constructor <;> rfl)
theorem Ls (n : Nat) (r : Unit) (h : Uy n = some r) : ak Tryz.prog 213 [.func 214 []] [] (.func 266 [.eptr [.func 214 []]]) [] := by
 unfold Uy at h
 refine ah false Tryz.func213 rfl (nt Tryz.ntmps213 rfl) fun Q hQ t ht => ?_
 conv at ht => whnf
 subst ht
 refine .q fun K1 k1 => rg 1 ?_
 refine k1 _ _ ?_
 refine .q fun K2 k2 => rg 0 ?_
 refine k2 _ _ ?_
 refine .ret ?_
 have e9 := sj h
 subst e9
 refine hQ _ _ _ (dI (u2 (.func 266 [.eptr [.func 214 []]] :: (.unk :: []))) [] (wk [] (.u2 (.cons (.func' (.cons (.wS rfl rfl (.cons (.func' .nil) .nil)) .nil)) (.u .nil))) .nil rfl) (bP aD [] rfl .nil ?_))
 conv => whnf
 first | rfl | (simp; done) | (simp; rfl) | (simp; constructor <;> rfl)
theorem V5 (n : Nat) (r : Unit) (h : NY n = some r) : ak Tryz.prog 213 [.func 215 []] [] (.func 266 [.eptr [.func 215 []]]) [] := by
 unfold NY at h
 refine ah false Tryz.func213 rfl (nt Tryz.ntmps213 rfl) fun Q hQ t ht => ?_
 conv at ht => whnf
 subst ht
 refine .q fun K1 k1 => rg 1 ?_
 refine k1 _ _ ?_
 refine .q fun K2 k2 => rg 0 ?_
 refine k2 _ _ ?_
 refine .ret ?_
 have e9 := sj h
 subst e9
 refine hQ _ _ _ (dI (u2 (.func 266 [.eptr [.func 215 []]] :: (.unk :: []))) [] (wk [] (.u2 (.cons (.func' (.cons (.wS rfl rfl (.cons (.func' .nil) .nil)) .nil)) (.u .nil))) .nil rfl) (bP aD [] rfl .nil ?_))
 conv => whnf
 first | rfl | (simp; done) | (simp; rfl) | (simp; constructor <;> rfl)
theorem aaH (n : Nat) (r : Unit) (h : Um n = some r) : ak Tryz.prog 217 [.func 214 []] [] (.func 267 [.eptr [.func 214 []]]) [] := by
 unfold Um at h
 refine ah false Tryz.func217 rfl (nt Tryz.ntmps217 rfl) fun Q hQ t ht => ?_
 conv at ht => whnf
 subst ht
 refine .q fun K1 k1 => rg 1 ?_
 refine k1 _ _ ?_
 refine .q fun K2 k2 => rg 0 ?_
 refine k2 _ _ ?_
 refine .ret ?_
 have e9 := sj h
 subst e9
 refine hQ _ _ _ (dI (u2 (.func 267 [.eptr [.func 214 []]] :: (.unk :: []))) [] (wk [] (.u2 (.cons (.func' (.cons (.wS rfl rfl (.cons (.func' .nil) .nil)) .nil)) (.u .nil))) .nil rfl) (bP aD [] rfl .nil ?_))
 conv => whnf
 first | rfl | (simp; done) | (simp; rfl) | (simp; constructor <;> rfl)
theorem Ct (n : Nat) (r : Unit) (h : NQ n = some r) : ak Tryz.prog 217 [.func 215 []] [] (.func 267 [.eptr [.func 215 []]]) [] := by
 unfold NQ at h
 refine ah false Tryz.func217 rfl (nt Tryz.ntmps217 rfl) fun Q hQ t ht => ?_
 conv at ht => whnf
 subst ht
 refine .q fun K1 k1 => rg 1 ?_
 refine k1 _ _ ?_
 refine .q fun K2 k2 => rg 0 ?_
 refine k2 _ _ ?_
 refine .ret ?_
 have e9 := sj h
 subst e9
 refine hQ _ _ _ (dI (u2 (.func 267 [.eptr [.func 215 []]] :: (.unk :: []))) [] (wk [] (.u2 (.cons (.func' (.cons (.wS rfl rfl (.cons (.func' .nil) .nil)) .nil)) (.u .nil))) .nil rfl) (bP aD [] rfl .nil ?_))
 conv => whnf
 first | rfl | (simp; done) | (simp; rfl) | (simp; constructor <;> rfl)
theorem Yp (n : Nat) (r : Unit) (h : P9 n = some r) : ak Tryz.prog 203 [.func 205 []] [] (.func 262 [.eptr [.func 205 []]]) [] := by
 unfold P9 at h
 refine ah false Tryz.func203 rfl (nt Tryz.ntmps203 rfl) fun Q hQ t ht => ?_
 conv at ht => whnf
 subst ht
 refine .q fun K1 k1 => rg 1 ?_
 refine k1 _ _ ?_
 refine .q fun K2 k2 => rg 0 ?_
 refine k2 _ _ ?_
 refine .ret ?_
 have e9 := sj h
 subst e9
 refine hQ _ _ _ (dI (u2 (.func 262 [.eptr [.func 205 []]] :: (.unk :: []))) [] (wk [] (.u2 (.cons (.func' (.cons (.wS rfl rfl (.cons (.func' .nil) .nil)) .nil)) (.u .nil))) .nil rfl) (bP aD [] rfl .nil ?_))
 conv => whnf
 first | rfl | (simp; done) | (simp; rfl) | (simp; constructor <;> rfl)
theorem JC (n : Nat) (r : Unit) (h : Ej n = some r) : ak Tryz.prog 208 [.func 221 []] [] (.func 263 [.eptr [.func 221 []]]) [] := by
 unfold Ej at h
 refine ah false Tryz.func208 rfl (nt Tryz.ntmps208 rfl) fun Q hQ t ht => ?_
 conv at ht => whnf
 subst ht
 refine .q fun K1 k1 => rg 1 ?_
 refine k1 _ _ ?_
 refine .q fun K2 k2 => rg 0 ?_
 refine k2 _ _ ?_
 refine .ret ?_
 have e9 := sj h
 subst e9
 refine hQ _ _ _ (dI (u2 (.func 263 [.eptr [.func 221 []]] :: (.unk :: []))) [] (wk [] (.u2 (.cons (.func' (.cons (.wS rfl rfl (.cons (.func' .nil) .nil)) .nil)) (.u .nil))) .nil rfl) (bP aD [] rfl .nil ?_))
 conv => whnf
 first | rfl | (simp; done) | (simp; rfl) | (simp; constructor <;> rfl)
theorem Jy (n : Nat) (r : Unit) (h : Ei n = some r) : ak Tryz.prog 208 [.func 222 []] [] (.func 263 [.eptr [.func 222 []]]) [] := by
 unfold Ei at h
 refine ah false Tryz.func208 rfl (nt Tryz.ntmps208 rfl) fun Q hQ t ht => ?_
 conv at ht => whnf
 subst ht
 refine .q fun K1 k1 => rg 1 ?_
 refine k1 _ _ ?_
 refine .q fun K2 k2 => rg 0 ?_
 refine k2 _ _ ?_
 refine .ret ?_
 have e9 := sj h
 subst e9
 refine hQ _ _ _ (dI (u2 (.func 263 [.eptr [.func 222 []]] :: (.unk :: []))) [] (wk [] (.u2 (.cons (.func' (.cons (.wS rfl rfl (.cons (.func' .nil) .nil)) .nil)) (.u .nil))) .nil rfl) (bP aD [] rfl .nil ?_))
 conv => whnf
 first | rfl | (simp; done) | (simp; rfl) | (simp; constructor <;> rfl)
theorem TM (n : Nat) (r : Unit) (h : KN n = some r) : ak Tryz.prog 210 [.func 223 []] [] (.func 264 [.eptr [.func 223 []]]) [] := by
 unfold KN at h
 refine ah false Tryz.func210 rfl (nt Tryz.ntmps210 rfl) fun Q hQ t ht => ?_
 conv at ht => whnf
 subst ht
 refine .q fun K1 k1 => rg 1 ?_
 refine k1 _ _ ?_
 refine .q fun K2 k2 => rg 0 ?_
 refine k2 _ _ ?_
 refine .ret ?_
 have e9 := sj h
 subst e9
 refine hQ _ _ _ (dI (u2 (.func 264 [.eptr [.func 223 []]] :: (.unk :: []))) [] (wk [] (.u2 (.cons (.func' (.cons (.wS rfl rfl (.cons (.func' .nil) .nil)) .nil)) (.u .nil))) .nil rfl) (bP aD [] rfl .nil ?_))
 conv => whnf
 first | rfl | (simp; done) | (simp; rfl) | (simp; constructor <;> rfl)
theorem TP (n : Nat) (r : Unit) (h : LU n = some r) : ak Tryz.prog 210 [.func 224 []] [] (.func 264 [.eptr [.func 224 []]]) [] := by
 unfold LU at h
 refine ah false Tryz.func210 rfl (nt Tryz.ntmps210 rfl) fun Q hQ t ht => ?_
 conv at ht => whnf
 subst ht
 refine .q fun K1 k1 => rg 1 ?_
 refine k1 _ _ ?_
 refine .q fun K2 k2 => rg 0 ?_
 refine k2 _ _ ?_
 refine .ret ?_
 have e9 := sj h
 subst e9
 refine hQ _ _ _ (dI (u2 (.func 264 [.eptr [.func 224 []]] :: (.unk :: []))) [] (wk [] (.u2 (.cons (.func' (.cons (.wS rfl rfl (.cons (.func' .nil) .nil)) .nil)) (.u .nil))) .nil rfl) (bP aD [] rfl .nil ?_))
 conv => whnf
 first | rfl | (simp; done) | (simp; rfl) | (simp; constructor <;> rfl)
theorem JL (n : Nat) (r : Unit) (h : Es n = some r) : ak Tryz.prog 208 [.func 225 []] [] (.func 263 [.eptr [.func 225 []]]) [] := by
 unfold Es at h
 refine ah false Tryz.func208 rfl (nt Tryz.ntmps208 rfl) fun Q hQ t ht => ?_
 conv at ht => whnf
 subst ht
 refine .q fun K1 k1 => rg 1 ?_
 refine k1 _ _ ?_
 refine .q fun K2 k2 => rg 0 ?_
 refine k2 _ _ ?_
 refine .ret ?_
 have e9 := sj h
 subst e9
 refine hQ _ _ _ (dI (u2 (.func 263 [.eptr [.func 225 []]] :: (.unk :: []))) [] (wk [] (.u2 (.cons (.func' (.cons (.wS rfl rfl (.cons (.func' .nil) .nil)) .nil)) (.u .nil))) .nil rfl) (bP aD [] rfl .nil ?_))
 conv => whnf
 first | rfl | (simp; done) | (simp; rfl) | (simp; constructor <;> rfl)
theorem Ko (n : Nat) (r : Unit) (h : Eo n = some r) : ak Tryz.prog 208 [.func 226 []] [] (.func 263 [.eptr [.func 226 []]]) [] := by
 unfold Eo at h
 refine ah false Tryz.func208 rfl (nt Tryz.ntmps208 rfl) fun Q hQ t ht => ?_
 conv at ht => whnf
 subst ht
 refine .q fun K1 k1 => rg 1 ?_
 refine k1 _ _ ?_
 refine .q fun K2 k2 => rg 0 ?_
 refine k2 _ _ ?_
 refine .ret ?_
 have e9 := sj h
 subst e9
 refine hQ _ _ _ (dI (u2 (.func 263 [.eptr [.func 226 []]] :: (.unk :: []))) [] (wk [] (.u2 (.cons (.func' (.cons (.wS rfl rfl (.cons (.func' .nil) .nil)) .nil)) (.u .nil))) .nil rfl) (bP aD [] rfl .nil ?_))
 conv => whnf
 first | rfl | (simp; done) | (simp; rfl) | (simp; constructor <;> rfl)
end Abs
end Go.Proofs.YtiiaccpcoclklaaGreat
