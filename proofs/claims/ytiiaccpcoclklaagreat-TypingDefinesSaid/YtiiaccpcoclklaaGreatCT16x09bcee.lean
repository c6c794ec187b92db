/-
  Contracts of Go functions (printed). Conditions: none.
-/
import Derived.KernelRfl
import Derived.Test.YtiiaccpcoclklaaGreatCT15x0c3722
set_option linter.unusedSimpArgs false
set_option linter.unusedVariables false
namespace Go.Proofs.YtiiaccpcoclklaaGreat
namespace Abs
open Go Go.Proofs
set_option maxRecDepth 100000
set_option maxHeartbeats 40000000
abbrev typing_copyType_S (rec_typing_copyType : Ty → Option Ty) : Prop := ∀ (p0 : Ty) (r : Ty), rec_typing_copyType p0 = some r → ak Tryz.prog 70 [aV p0] [] (aV r) []
theorem IY (n : Nat) (rec_typing_copyType : Ty → Option Ty) (hrec_typing_copyType : typing_copyType_S rec_typing_copyType) (p0 : Ty) (r : Ty) (h : oP n rec_typing_copyType p0 = some r) : ak Tryz.prog 70 [aV p0] [] (aV r) [] := by
 unfold oP at h
 refine ah true Tryz.func70 rfl (nt Tryz.ntmps70 rfl) fun Q hQ t ht => ?_
 conv at ht => whnf
 subst ht
 refine .q fun K1 k1 => rg 2 ?_
 refine k1 _ _ ?_
 refine .q fun K2 k2 => rg 1 ?_
 refine k2 _ _ ?_
 refine .q fun K3 k3 => .q fun K4 k4 => rg 0 ?_
 refine aW (l := p0.kids) (f := aK) ?_
 refine k4 _ _ ?_
 refine .block ?_
 obtain ⟨o1, ho1, h⟩ := ob h
 have hR1 : ∀ s2 : List Ty, o1 = .nx s2 → ∀ t9 h9, Le 0 t9 h9 (u2 (.ptr 0 0 :: (.ptr 1 0 :: (u16 (u4 (u2 (.unk :: []))))))) [.box [.i 0, .str ([] : Str), .slice (List.map aK ([] : List Ty)) .nils], .box [.i p0.kind, .str p0.name, .slice (List.map aK s2) (.tip 2 3)], .tip (List.length s2 * 3)] → K3 t9 h9 := by
  intro s2 ho
  subst ho
  dsimp only [LR.el] at h
  intro t9 h9 hw
  refine k3 _ _ (AW.le hw ?_)
  refine .q fun K5 k5 => rg 0 ?_
  refine k5 _ _ ?_
  refine .ret ?_
  have e9 := sj h
  subst e9
  refine hQ _ _ _ (aj aD (fun g => by simp) ?_)
  conv => whnf
  try rfl
 refine .loopS (qA n rec_typing_copyType p0) (fun (s1 : Int × (List Ty)) => (u2 (.ptr 0 0 :: (.ptr 1 0 :: (u8 (aI p0.kids :: (.i (p0.kids.length : Int) :: (.i s1.1 :: (u8 (u4 [])))))))))) (fun (s1 : Int × (List Ty)) => [.box [.i 0, .str ([] : Str), .slice (List.map aK ([] : List Ty)) .nils], .box [.i p0.kind, .str p0.name, .slice (List.map aK s1.2) (.tip 2 3)], .tip (List.length s1.2 * 3)]) ho1 (fun _ => rfl) (wk [some 1, some 2, none] (.u2 (.c rfl (.c rfl (.u8 (.e aB (.c rfl (.c rfl (.u8 (.u4 .nil))))))))) (.b rfl (.c rfl (.c rfl (.c rfl .nil))) (.b rfl (.c rfl (.c rfl (.cons (.nils _ _) .nil))) (.w rfl .nil))) rfl) ?_
 intro n1 s1 hs1 KL1 hKL1
 unfold qA at hs1
 refine .q fun K6 k6 => rg 0 ?_
 refine k6 _ _ ?_
 refine .q fun K7 k7 => ?_
 refine .aC rfl hs1 (fun hc1 hs1 => ?_) (fun hc1 hs1 => ?_)
 ·refine .skip ?_
  refine k7 _ _ ?_
  refine .q fun K8 k8 => ?_
  refine .block ?_
  refine .q fun K9 k9 => rg 1 ?_
  obtain ⟨x1, hx1, hs1⟩ := ob hs1
  refine aJ (l := p0.kids) (f := aK) (cs := [.i ((x1).kind), .str ((x1).name), aI ((x1).kids)]) hx1 (aR x1) rfl ?_
  refine k9 _ _ ?_
  refine rg 2 ?_
  obtain ⟨x2, hx2, hs1⟩ := ob hs1
  refine cp (hrec_typing_copyType _ _ hx2) KG (.cons (.same _) .nil) ?_
  refine ⟨List.map aK ([x2]), by simp only [List.map_cons, List.map_nil, aR]; rfl, ?_⟩
  obtain ⟨x3, hx3, hs1⟩ := ob hs1
  refine dW (l := s1.2) (ys := [x2]) (f := aK) hx3 adU rfl rfl rfl ?_
  refine ⟨rfl, ?_⟩
  refine k8 _ _ ?_
  refine .know 14 0 fun hv1 => ?_
  refine .know 12 0 fun hv2 => ?_
  refine rg 0 ?_
  refine ⟨(s1.1 + 1), by have := dn hv1; have := eP hv2; have h8 := of_decide_eq_true hc1; exact bG (by omega) (by omega), ?_⟩
  exact hKL1 _ _ _ hs1 (wk [some 0, some 1, some 5] (.u2 (.c rfl (.c rfl (.u8 (.e aB (.c rfl (.c rfl (.u8 (.u4 .nil))))))))) (.b rfl (.c rfl (.c rfl (.c rfl .nil))) (.b rfl (.c rfl (.c rfl (.cons (.bF (aB _ _) rfl) .nil))) (.t rfl .nil))) rfl)
 refine .exit ?_
 exact hR1 _ (sj hs1).symm _ _ (li (.u2 (.s (.s (.u16 (.u4 (.u2 (.u .n))))))))
theorem OG (n : Nat) : typing_copyType_S (gB n) := by
 induction n with
 | zero => exact (fun p0 r h => by unfold gB at h; cases h)
 | succ n ih =>
  exact (fun p0 r h => IY n _ ih p0 r (by unfold gB at h; exact h))
theorem qB (n : Nat) : typing_copyType_S (gB n) := (OG n)
theorem fu (n : Nat) (p0 : Env) (p1 : Tm) (r : Ty × (List Int) × Int) (h : eH n p0 p1 = some r) : ak Tryz.prog 18 [dz p0, bg p1] [] (.bq [aV r.1, mE r.2.1, .i r.2.2]) [] := by
 unfold eH at h
 refine ah true Tryz.func18 rfl (nt Tryz.ntmps18 rfl) fun Q hQ t ht => ?_
 conv at ht => whnf
 subst ht
 refine .q fun K1 k1 => rg 3 ?_
 refine k1 _ _ ?_
 refine .q fun K2 k2 => .q fun K3 k3 => ?_
 obtain ⟨s1, hj1, h⟩ := ob h
 have hR1 : ∀ t9 h9, Le 0 t9 h9 (u2 (.ptr 0 0 :: (.ptr 1 0 :: (.ptr 2 0 :: (u8 (u2 (.bool s1 :: (u16 (u4 []))))))))) [.box [bT p0.carriers, bU p0.names], .box [.i p1.op, .str p1.name, .i p1.n, .i p1.ty.kind, .str p1.ty.name, aI p1.ty.kids, bn p1.kids], .box [.i 0, .str ([] : Str), .slice (List.map aK ([] : List Ty)) .nils]] → K3 t9 h9 := by
  intro t9 h9 hw
  refine k3 _ _ (AW.le hw ?_)
  clear hw
  refine .aC rfl h (fun hc1 h => ?_) (fun hc1 h => ?_)
  ·refine .q fun K4 k4 => rg 0 ?_
   refine k4 _ _ ?_
   refine .ret ?_
   have e9 := sj h
   subst e9
   refine hQ _ _ _ (aj aD (fun g => by simp) ?_)
   conv => whnf
   try rfl
  refine .skip ?_
  refine k2 _ _ ?_
  refine .q fun K5 k5 => rg 4 ?_
  obtain ⟨x1, hx1, h⟩ := ob h
  refine bM [] [3, 4, 5, 6] [dz p0] [dz p0] (MQ _ _ _ hx1) arq rfl .nil (by simp; try decide) (.cons (.same _) .nil) (rn := .ptr 3 0) (rfl) (Hn := [.box (.mapr 4 :: (.mapr 5 :: (dD ++ (.psl 6 1 (List.length ([] : List Int)) :: [])))), .mp (fP x1.1), .mp (eX x1.2), .arr 1 (List.map encI ([] : List Int))]) ((bI (by simp only [cO, ren, bW, bK, dJ, bN, aQ, aZ, bS, aB, aN, aA, aG, aP]; try rfl) (bI (congrArg AObj.mp (dS (f := aV) (fun g x => by simp) _ _)) (bI (congrArg AObj.mp (dS (f := (fun (x : Bool) => .bool x)) (fun g x => rfl) _ _)) (bI (congrArg (AObj.arr _) (aQ _ _)) rfl))))) ?_
  refine k5 _ _ ?_
  refine .q fun K6 k6 => rg 1 ?_
  obtain ⟨x2, hx2, h⟩ := ob h
  refine bM [3, 4, 5, 6] [7] [.ptr 0 0, bg p1, .flist (List.map aO ([] : List Decl))] [.ptr 3 0, bg p1, .flist (List.map aO ([] : List Decl))] (MU _ _ _ _ _ _ _ hx2) al9 rfl (.cons (by simp only [cO, ren, bW, bK, dJ, bN, aQ, aZ, bS, aB, aN, aA, aG, aP]; try rfl) (.cons (congrArg AObj.mp (dS (f := aV) (fun g x => by simp) _ _)) (.cons (congrArg AObj.mp (dS (f := (fun (x : Bool) => .bool x)) (fun g x => rfl) _ _)) (.cons (congrArg (AObj.arr _) (aQ _ _)) .nil)))) (by simp; try decide) (.cons (.same _) (.cons (.same _) (.cons .nilF .nil))) (rn := .bq [aV x2.1, .i x2.2.1]) (by simp; try decide) (Hn := [.box (.mapr 4 :: (.mapr 5 :: (dD ++ (.psl 7 1 (List.length x2.2.2) :: [])))), .mp (fP x1.1), .mp (eX x1.2), .dead, .arr 1 (List.map encI x2.2.2)]) ((bI (by simp only [cO, ren, bW, bK, dJ, bN, aQ, aZ, bS, aB, aN, aA, aG, aP]; try rfl) (bI (congrArg AObj.mp (dS (f := aV) (fun g x => by simp) _ _)) (bI (congrArg AObj.mp (dS (f := (fun (x : Bool) => .bool x)) (fun g x => rfl) _ _)) (bI (rfl) (bI (congrArg (AObj.arr _) (aQ _ _)) rfl)))))) ?_
  refine k6 _ _ ?_
  refine .q fun K7 k7 => .q fun K8 k8 => rg 0 ?_
  refine k8 _ _ ?_
  refine .aC rfl h (fun hc2 h => ?_) (fun hc2 h => ?_)
  ·refine .q fun K9 k9 => ?_
   refine .le (t' := (u2 (.ptr 0 0 :: (.ptr 1 0 :: (.ptr 2 0 :: (.unk :: (.i x2.2.1 :: (.ptr 3 0 :: (u4 (u2 (.unk :: (.bool s1 :: (.unk :: (dz p0 :: (.ptr 3 0 :: (.bq [aV x2.1, .i x2.2.1] :: (.ptr 3 0 :: (bg p1 :: (.bq [aV x2.1, .i x2.2.1] :: (aV x2.1 :: (.i x2.2.1 :: (.i x2.2.1 :: (.bool (x2.2.1 != 0) :: (u8 (.unk :: []))))))))))))))))))))))))) (h' := [.box [bT p0.carriers, bU p0.names], .box [.i p1.op, .str p1.name, .i p1.n, .i p1.ty.kind, .str p1.ty.name, aI p1.ty.kids, bn p1.kids], .box [.i x2.1.kind, .str x2.1.name, aI x2.1.kids], .box (.mapr 4 :: (.mapr 5 :: (dD ++ (mE x2.2.2 :: [])))), .mp (fP x1.1), .mp (eX x1.2), .dead]) (wk [some 0, some 1, some 2, some 3, some 4, some 5, some 6] (.u2 (.c rfl (.c rfl (.c rfl (.u (.c rfl (.c rfl (.u4 (.u2 (.u (.c rfl (.u (.cons (.agg' (.e aA (.e aG .nil))) (.c rfl (.cons (.pW (.cons (.agg' (.c rfl (.c rfl (.e aB .nil)))) (.c rfl .nil))) (.c rfl (.cons (.agg' (.c rfl (.c rfl (.c rfl (.c rfl (.c rfl (.e aB (.e aN .nil)))))))) (.cons (.pW (.cons (.agg' (.c rfl (.c rfl (.e aB .nil)))) (.c rfl .nil))) (.cons (.agg' (.c rfl (.c rfl (.e aB .nil)))) (.c rfl (.c rfl (.c rfl (.u8 (.u .nil)))))))))))))))))))))))) (.b rfl (.e aA (.e aG .nil)) (.b rfl (.c rfl (.c rfl (.c rfl (.c rfl (.c rfl (.e aB (.e aN .nil))))))) (.b rfl (.c rfl (.c rfl (.e aB .nil))) (.b rfl (.c rfl (.c rfl (.dK aP (.cons (.Dz aQ (aT _) rfl rfl) .nil)))) (.old .mT (.old .mB (.old (.dead _) .nil))))))) rfl) ?_
   refine rg 0 ?_
   obtain ⟨x3, hx3, h⟩ := ob h
   refine cp (OC _ _ _ hx3) aqv (.cons (.same _) .nil) ?_
   refine k9 _ _ ?_
   refine .ret ?_
   have e9 := sj h
   subst e9
   refine hQ _ _ _ (aj aD (fun g => by simp) ?_)
   conv => whnf
   try rfl
  refine .skip ?_
  refine k7 _ _ ?_
  refine .q fun K10 k10 => rg 0 ?_
  obtain ⟨x4, hx4, h⟩ := ob h
  refine cp (qB _ _ _ hx4) KG (.cons (.same _) .nil) ?_
  refine k10 _ _ ?_
  refine .ret ?_
  have e9 := sj h
  subst e9
  refine hQ _ _ _ (aj aD (fun g => by simp) ?_)
  conv => whnf
  try rfl
 refine rg 0 ?_
 obtain ⟨x5, hx5, hj1⟩ := ob hj1
 refine au (jN _ _ _ hx5) FD (.cons (.same _) .nil) (fun g => by simp) (fun g => rfl) ?_
 refine aH hj1 (fun hc3 hj1 => ?_) (fun hc3 hj1 => ?_)
 ·cases hj1
  exact hR1 _ _ (li (.u2 (.s (.s (.s (.u8 (.u2 (.s (.u16 (.u4 .n))))))))))
 obtain ⟨x6, hx6, hj1⟩ := ob hj1
 refine au (FV _ _ _ hx6) ae0 (.cons (.same _) .nil) (fun g => by simp) (fun g => rfl) ?_
 cases hj1
 exact hR1 _ _ (li (.u2 (.s (.s (.s (.u8 (.u2 (.s (.u16 (.u4 .n))))))))))
theorem Qk (n : Nat) (p0 : Int) (r : Bool) (h : CK n p0 = some r) : ak Tryz.prog 120 [.int .u8 p0] [] (.bool r) [] := by
 unfold CK at h
 refine ah true Tryz.func120 rfl (nt Tryz.ntmps120 rfl) fun Q hQ t ht => ?_
 conv at ht => whnf
 subst ht
 refine .q fun K1 k1 => rg 0 ?_
 refine k1 _ _ ?_
 refine .q fun K2 k2 => ?_
 obtain ⟨s1, hj1, h⟩ := ob h
 have hR1 : ∀ t9 h9, Le 0 t9 h9 (u2 (.bool s1 :: (u8 (u4 (u2 []))))) [] → K2 t9 h9 := by
  intro t9 h9 hw
  refine k2 _ _ (AW.le hw ?_)
  clear hw
  refine .ret ?_
  have e9 := sj h
  subst e9
  refine hQ _ _ _ (aj aD (fun g => rfl) ?_)
  conv => whnf
 refine rg 0 ?_
 refine aH hj1 (fun hc1 hj1 => ?_) (fun hc1 hj1 => ?_)
 ·refine aH hj1 (fun hc2 hj1 => ?_) (fun hc2 hj1 => ?_)
  ·cases hj1
   exact hR1 _ _ (li (.u2 (.s (.u8 (.u4 (.u2 .n))))))
  refine aH hj1 (fun hc3 hj1 => ?_) (fun hc3 hj1 => ?_)
  ·cases hj1
   exact hR1 _ _ (li (.u2 (.s (.u8 (.u4 (.u2 .n))))))
  cases hj1
  exact hR1 _ _ (li (.u2 (.s (.u8 (.u4 (.u2 .n))))))
 refine aH hj1 (fun hc4 hj1 => ?_) (fun hc4 hj1 => ?_)
 ·cases hj1
  exact hR1 _ _ (li (.u2 (.s (.u8 (.u4 (.u2 .n))))))
 cases hj1
 exact hR1 _ _ (li (.u2 (.s (.u8 (.u4 (.u2 .n))))))
theorem uf (n : Nat) (p0 : Str) (p1 : List Str) (r : Bool) (h : mq n p0 p1 = some r) : ak Tryz.prog 50 [.str p0, bQ p1] [] (.bool r) [] := by
 unfold mq at h
 refine ah true Tryz.func50 rfl (nt Tryz.ntmps50 rfl) fun Q hQ t ht => ?_
 conv at ht => whnf
 subst ht
 refine .q fun K1 k1 => rg 0 ?_
 refine k1 _ _ ?_
 refine .q fun K2 k2 => .q fun K3 k3 => rg 0 ?_
 refine k3 _ _ ?_
 refine .block ?_
 obtain ⟨o1, ho1, h⟩ := ob h
 have hR1 : ∀ s2 : Unit, o1 = .nx s2 → ∀ t9 h9, Le 0 t9 h9 (u16 (u2 [])) [] → K2 t9 h9 := by
  intro s2 ho
  subst ho
  dsimp only [LR.el] at h
  intro t9 h9 hw
  refine k2 _ _ (AW.le hw ?_)
  refine .q fun K4 k4 => rg 0 ?_
  refine k4 _ _ ?_
  refine .ret ?_
  have e9 := sj h
  subst e9
  refine hQ _ _ _ (aj aD (fun g => rfl) ?_)
  conv => whnf
 refine .loopS (Ho n p0 p1) (fun (s1 : Int) => (.str p0 :: (bQ p1 :: (u2 (.unk :: (.i s1 :: (u8 (u4 [])))))))) (fun (s1 : Int) => []) ho1 (fun _ => rfl) (li (.s (.s (.u2 (.u (.s (.u8 (.u4 .n)))))))) ?_
 intro n1 s1 hs1 KL1 hKL1
 unfold Ho at hs1
 refine .q fun K5 k5 => .q fun K6 k6 => rg 0 ?_
 refine aW (l := p1) (f := encS) ?_
 refine k6 _ _ ?_
 refine .aC rfl hs1 (fun hc1 hs1 => ?_) (fun hc1 hs1 => ?_)
 ·refine .skip ?_
  refine k5 _ _ ?_
  refine .q fun K7 k7 => ?_
  refine .block ?_
  refine .q fun K8 k8 => rg 0 ?_
  obtain ⟨x1, hx1, hs1⟩ := ob hs1
  refine aJ (l := p1) (f := encS) (cs := [.str (x1)]) hx1 (rfl) rfl ?_
  refine k8 _ _ ?_
  refine .aC rfl hs1 (fun hc2 hs1 => ?_) (fun hc2 hs1 => ?_)
  ·refine .q fun K9 k9 => rg 0 ?_
   refine k9 _ _ ?_
   refine .ret ?_
   have e9 := sj hs1
   subst e9
   dsimp only [LR.el] at h
   have e9 := sj h
   subst e9
   refine hQ _ _ _ (aj aD (fun g => rfl) ?_)
   conv => whnf
  refine .skip ?_
  refine k7 _ _ ?_
  refine .know 5 0 fun hv1 => ?_
  refine .know 1 0 fun hv2 => ?_
  refine rg 0 ?_
  refine ⟨(s1 + 1), by have := dn hv1; have := eP hv2; have h8 := of_decide_eq_true hc1; exact bG (by omega) (by omega), ?_⟩
  exact hKL1 _ _ _ hs1 (li (.s (.s (.u2 (.u (.s (.u8 (.u4 .n))))))))
 refine .exit ?_
 exact hR1 _ (sj hs1).symm _ _ (li (.u16 (.u2 .n)))
theorem ady (n : Nat) (p0 : Str) (r : Bool) (h : DV n p0 = some r) : ak Tryz.prog 121 [.str p0] [] (.bool r) [] := by
 unfold DV at h
 refine ah true Tryz.func121 rfl (nt Tryz.ntmps121 rfl) fun Q hQ t ht => ?_
 conv at ht => whnf
 subst ht
 refine .q fun K1 k1 => rg 0 ?_
 refine k1 _ _ ?_
 refine .q fun K2 k2 => rg 1 ?_
 refine ⟨List.map encS ([([116, 114, 117, 101] : Str), ([102, 97, 108, 115, 101] : Str), ([110, 111, 116] : Str), ([111, 114] : Str), ([102, 111, 114, 97, 108, 108] : Str), ([101, 120, 105, 115, 116, 115] : Str), ([105, 110] : Str), ([110, 111, 116, 105, 110] : Str), ([115, 117, 98] : Str), ([109, 111, 100] : Str), ([102, 117, 110] : Str), ([99, 97, 114, 100] : Str), ([109, 105, 110] : Str), ([109, 97, 120] : Str), ([100, 111, 109] : Str), ([114, 97, 110] : Str), ([80, 79, 87] : Str), ([105, 110, 116] : Str), ([98, 111, 111, 108] : Str), ([115, 101, 116] : Str), ([112, 97, 105, 114] : Str)]), by kernel_rfl, ?_⟩
 refine k2 _ _ ?_
 refine .q fun K3 k3 => rg 0 ?_
 obtain ⟨x1, hx1, h⟩ := ob h
 refine au (uf _ _ _ _ hx1) zW (.cons (.same _) (.cons (.share _ _) .nil)) (fun g => by simp) (fun g => rfl) ?_
 refine k3 _ _ ?_
 refine .ret ?_
 have e9 := sj h
 subst e9
 refine hQ _ _ _ (aj aD (fun g => rfl) ?_)
 conv => whnf
theorem Us (n : Nat) (p0 : Int) (r : Bool) (h : EF n p0 = some r) : ak Tryz.prog 122 [.int .u8 p0] [] (.bool r) [] := by
 unfold EF at h
 refine ah true Tryz.func122 rfl (nt Tryz.ntmps122 rfl) fun Q hQ t ht => ?_
 conv at ht => whnf
 subst ht
 refine .q fun K1 k1 => rg 0 ?_
 refine k1 _ _ ?_
 refine .q fun K2 k2 => ?_
 obtain ⟨s1, hj1, h⟩ := ob h
 have hR1 : ∀ t9 h9, Le 0 t9 h9 (u2 (.bool s1 :: (u4 (u2 [])))) [] → K2 t9 h9 := by
  intro t9 h9 hw
  refine k2 _ _ (AW.le hw ?_)
  clear hw
  refine .ret ?_
  have e9 := sj h
  subst e9
  refine hQ _ _ _ (aj aD (fun g => rfl) ?_)
  conv => whnf
 refine rg 0 ?_
 refine aH hj1 (fun hc1 hj1 => ?_) (fun hc1 hj1 => ?_)
 ·cases hj1
  exact hR1 _ _ (li (.u2 (.s (.u4 (.u2 .n)))))
 cases hj1
 exact hR1 _ _ (li (.u2 (.s (.u4 (.u2 .n)))))
theorem nD (n : Nat) (p0 : Str) (r : Bool) (h : gV n p0 = some r) : ak Tryz.prog 58 [.str p0] [] (.bool r) [] := by
 unfold gV at h
 refine ah true Tryz.func58 rfl (nt Tryz.ntmps58 rfl) fun Q hQ t ht => ?_
 conv at ht => whnf
 subst ht
 refine .q fun K1 k1 => rg 0 ?_
 refine k1 _ _ ?_
 refine .q fun K2 k2 => .q fun K3 k3 => ?_
 obtain ⟨s1, hj1, h⟩ := ob h
 have hR1 : ∀ t9 h9, Le 0 t9 h9 (.str p0 :: (u16 (u4 (.bool s1 :: (u16 (u8 [])))))) [] → K3 t9 h9 := by
  intro t9 h9 hw
  refine k3 _ _ (AW.le hw ?_)
  clear hw
  refine .aC rfl h (fun hc1 h => ?_) (fun hc1 h => ?_)
  ·refine .q fun K4 k4 => rg 0 ?_
   refine k4 _ _ ?_
   refine .ret ?_
   have e9 := sj h
   subst e9
   refine hQ _ _ _ (aj aD (fun g => rfl) ?_)
   conv => whnf
  refine .skip ?_
  refine k2 _ _ ?_
  refine .q fun K5 k5 => .q fun K6 k6 => rg 0 ?_
  refine k6 _ _ ?_
  refine .block ?_
  obtain ⟨o1, ho1, h⟩ := ob h
  have hR2 : ∀ s3 : Unit, o1 = .nx s3 → ∀ t9 h9, Le 0 t9 h9 (u32 (u8 (u4 (u2 [])))) [] → K5 t9 h9 := by
   intro s3 ho
   subst ho
   dsimp only [LR.el] at h
   intro t9 h9 hw
   refine k5 _ _ (AW.le hw ?_)
   refine .q fun K7 k7 => rg 0 ?_
   refine k7 _ _ ?_
   refine .ret ?_
   have e9 := sj h
   subst e9
   refine hQ _ _ _ (aj aD (fun g => rfl) ?_)
   conv => whnf
  refine .loopS (qb n p0) (fun (s2 : Int) => (.str p0 :: (u2 (.i s2 :: (u32 (u8 (u2 []))))))) (fun (s2 : Int) => []) ho1 (fun _ => rfl) (li (.s (.u2 (.s (.u16 (.u16 (.u8 (.u2 .n)))))))) ?_
  intro n1 s2 hs1 KL1 hKL1
  unfold qb at hs1
  refine .q fun K8 k8 => .q fun K9 k9 => rg 0 ?_
  refine k9 _ _ ?_
  refine .aC rfl hs1 (fun hc2 hs1 => ?_) (fun hc2 hs1 => ?_)
  ·refine .skip ?_
   refine k8 _ _ ?_
   refine .q fun K10 k10 => ?_
   refine .block ?_
   refine .q fun K11 k11 => ?_
   obtain ⟨s4, hj2, hs1⟩ := ob hs1
   have hR3 : ∀ t9 h9, Le 0 t9 h9 (.str p0 :: (u2 (.i s2 :: (u32 (u8 (.unk :: (.bool s4 :: []))))))) [] → K11 t9 h9 := by
    intro t9 h9 hw
    refine k11 _ _ (AW.le hw ?_)
    clear hw
    refine .aC rfl hs1 (fun hc3 hs1 => ?_) (fun hc3 hs1 => ?_)
    ·refine .q fun K12 k12 => rg 0 ?_
     refine k12 _ _ ?_
     refine .ret ?_
     have e9 := sj hs1
     subst e9
     dsimp only [LR.el] at h
     have e9 := sj h
     subst e9
     refine hQ _ _ _ (aj aD (fun g => rfl) ?_)
     conv => whnf
    refine .skip ?_
    refine k10 _ _ ?_
    refine .know 3 0 fun hv1 => ?_
    refine .know 0 0 fun hv2 => ?_
    refine rg 0 ?_
    refine ⟨(s2 + 1), by have := dn hv1; have := vfs hv2; have h8 := of_decide_eq_true hc2; exact bG (by omega) (by omega), ?_⟩
    exact hKL1 _ _ _ hs1 (li (.s (.u2 (.s (.u16 (.u16 (.u8 (.u2 .n))))))))
   refine rg 0 ?_
   obtain ⟨x1, hx1, hj2⟩ := ob hj2
   refine CO hx1 ?_
   obtain ⟨x2, hx2, hj2⟩ := ob hj2
   refine au (Qk _ _ _ hx2) ahA (.cons (.same _) .nil) (fun g => rfl) (fun g => rfl) ?_
   refine aH hj2 (fun hc4 hj2 => ?_) (fun hc4 hj2 => ?_)
   ·obtain ⟨x3, hx3, hj2⟩ := ob hj2
    refine CO hx3 ?_
    obtain ⟨x4, hx4, hj2⟩ := ob hj2
    refine au (Us _ _ _ hx4) aiB (.cons (.same _) .nil) (fun g => rfl) (fun g => rfl) ?_
    refine aH hj2 (fun hc5 hj2 => ?_) (fun hc5 hj2 => ?_)
    ·obtain ⟨x5, hx5, hj2⟩ := ob hj2
     refine CO hx5 ?_
     cases hj2
     exact hR3 _ _ (li (.s (.u2 (.s (.u16 (.u16 (.u8 (.u (.s .n)))))))))
    cases hj2
    exact hR3 _ _ (li (.s (.u2 (.s (.u16 (.u16 (.u8 (.u (.s .n)))))))))
   cases hj2
   exact hR3 _ _ (li (.s (.u2 (.s (.u16 (.u16 (.u8 (.u (.s .n)))))))))
  refine .exit ?_
  exact hR2 _ (sj hs1).symm _ _ (li (.u16 (.u16 (.u8 (.u4 (.u2 .n))))))
 refine rg 0 ?_
 refine aH hj1 (fun hc6 hj1 => ?_) (fun hc6 hj1 => ?_)
 ·cases hj1
  exact hR1 _ _ (li (.s (.u16 (.u4 (.s (.u16 (.u8 .n)))))))
 refine aH hj1 (fun hc7 hj1 => ?_) (fun hc7 hj1 => ?_)
 ·cases hj1
  exact hR1 _ _ (li (.s (.u16 (.u4 (.s (.u16 (.u8 .n)))))))
 obtain ⟨x6, hx6, hj1⟩ := ob hj1
 refine CO hx6 ?_
 obtain ⟨x7, hx7, hj1⟩ := ob hj1
 refine au (Qk _ _ _ hx7) ahA (.cons (.same _) .nil) (fun g => rfl) (fun g => rfl) ?_
 refine aH hj1 (fun hc8 hj1 => ?_) (fun hc8 hj1 => ?_)
 ·cases hj1
  exact hR1 _ _ (li (.s (.u16 (.u4 (.s (.u16 (.u8 .n)))))))
 obtain ⟨x8, hx8, hj1⟩ := ob hj1
 refine au (ady _ _ _ hx8) apc (.cons (.same _) .nil) (fun g => rfl) (fun g => rfl) ?_
 cases hj1
 exact hR1 _ _ (li (.s (.u16 (.u4 (.s (.u16 (.u8 .n)))))))
theorem Pf (n : Nat) (p0 : Str) (r : Bool) (h : xu n p0 = some r) : ak Tryz.prog 190 [.str p0] [] (.bool r) [] := by
 unfold xu at h
 refine ah true Tryz.func190 rfl (nt Tryz.ntmps190 rfl) fun Q hQ t ht => ?_
 conv at ht => whnf
 subst ht
 refine .q fun K1 k1 => rg 0 ?_
 refine k1 _ _ ?_
 refine .q fun K2 k2 => ?_
 obtain ⟨s1, hj1, h⟩ := ob h
 have hR1 : ∀ t9 h9, Le 0 t9 h9 (u2 (.bool s1 :: (u16 (u2 (.unk :: []))))) [] → K2 t9 h9 := by
  intro t9 h9 hw
  refine k2 _ _ (AW.le hw ?_)
  clear hw
  refine .ret ?_
  have e9 := sj h
  subst e9
  refine hQ _ _ _ (aj aD (fun g => rfl) ?_)
  conv => whnf
 refine .know 0 0 fun hv1 => ?_
 refine rg 0 ?_
 refine aH hj1 (fun hc1 hj1 => ?_) (fun hc1 hj1 => ?_)
 ·refine ⟨((p0.length : Int) - 1), by have := vfs hv1; exact bG (by omega) (by omega), ?_⟩
  obtain ⟨x1, hx1, hj1⟩ := ob hj1
  refine CO hx1 ?_
  refine aH hj1 (fun hc2 hj1 => ?_) (fun hc2 hj1 => ?_)
  ·refine ⟨((p0.length : Int) - 1), by have := vfs hv1; exact bG (by omega) (by omega), ?_⟩
   obtain ⟨x2, hx2, hj1⟩ := ob hj1
   refine RJ hx2 (.none _) (.int _ _ _) ?_
   obtain ⟨x3, hx3, hj1⟩ := ob hj1
   refine au (nD _ _ _ hx3) H7 (.cons (.same _) .nil) (fun g => rfl) (fun g => rfl) ?_
   cases hj1
   exact hR1 _ _ (li (.u2 (.s (.u16 (.u2 (.u .n))))))
  cases hj1
  exact hR1 _ _ (li (.u2 (.s (.u16 (.u2 (.u .n))))))
 cases hj1
 exact hR1 _ _ (li (.u2 (.s (.u16 (.u2 (.u .n))))))
end Abs
end Go.Proofs.YtiiaccpcoclklaaGreat
