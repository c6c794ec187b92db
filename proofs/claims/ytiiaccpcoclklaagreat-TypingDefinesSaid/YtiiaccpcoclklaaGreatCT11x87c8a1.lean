/-
  Contracts of Go functions (printed). Conditions: none.
-/
import Derived.KernelRfl
import Derived.Test.YtiiaccpcoclklaaGreatCT9x21e186
set_option linter.unusedSimpArgs false
set_option linter.unusedVariables false
namespace Go.Proofs.YtiiaccpcoclklaaGreat
namespace Abs
open Go Go.Proofs
set_option maxRecDepth 100000
set_option maxHeartbeats 40000000
theorem Ir (n : Nat) (p0 : Ty) (r : Ty) (h : Nz n p0 = some r) : ak Tryz.prog 214 [aV p0] [] (aV r) [] := by
 unfold Nz at h
 refine ah true Tryz.func214 rfl (nt Tryz.ntmps214 rfl) fun Q hQ t ht => ?_
 conv at ht => whnf
 subst ht
 refine .q fun K1 k1 => rg 2 ?_
 refine k1 _ _ ?_
 refine .q fun K2 k2 => rg 0 ?_
 refine au (oo 0 _ rfl) Ew .nil (fun g => rfl) (fun g => by simp) ?_
 refine k2 _ _ ?_
 refine .ret ?_
 have e9 := sj h
 subst e9
 refine hQ _ _ _ (aj aD (fun g => by simp) ?_)
 conv => whnf
 try rfl
theorem FB (n : Nat) (p0 : List Ty) (r : Ty × Bool) (h : ou n p0 = some r) : ak Tryz.prog 266 [aI p0, .eptr [.func 214 []]] [] (.bq [aV r.1, .bool r.2]) [] := by
 unfold ou at h
 refine ah true Tryz.func266 rfl (nt Tryz.ntmps266 rfl) fun Q hQ t ht => ?_
 conv at ht => whnf
 subst ht
 refine .q fun K1 k1 => rg 1 ?_
 refine k1 _ _ ?_
 refine .q fun K2 k2 => rg 0 ?_
 obtain ⟨x1, hx1, h⟩ := ob h
 refine aJ (l := p0) (f := aK) (cs := [.i ((x1).kind), .str ((x1).name), aI ((x1).kids)]) hx1 (aR x1) rfl ?_
 refine cp (Ir 0 x1 _ rfl) aht (.cons (.same _) .nil) ?_
 obtain ⟨x2, hx2, h⟩ := ob h
 refine aJ (l := p0) (f := aK) (cs := [.i ((x2).kind), .str ((x2).name), aI ((x2).kids)]) hx2 (aR x2) rfl ?_
 refine ⟨rfl, ?_⟩
 refine k2 _ _ ?_
 refine .ret ?_
 have e9 := sj h
 subst e9
 refine hQ _ _ _ (aj aD (fun g => by simp) ?_)
 conv => whnf
 try rfl
abbrev slices_EqualFunc_Type_S (rec_slices_EqualFunc_Type : (List Ty) → (List Ty) → Option Bool) : Prop := ∀ (p0 : List Ty) (p1 : List Ty) (r : Bool), rec_slices_EqualFunc_Type p0 p1 = some r → ak Tryz.prog 177 [aI p0, aI p1, .func 93 []] [] (.bool r) []
abbrev typing_equal_S (rec_typing_equal : Ty → Ty → Option Bool) : Prop := ∀ (p0 : Ty) (p1 : Ty) (r : Bool), rec_typing_equal p0 p1 = some r → ak Tryz.prog 93 [aV p0, aV p1] [] (.bool r) []
theorem Ea (n : Nat) (rec_slices_EqualFunc_Type : (List Ty) → (List Ty) → Option Bool) (rec_typing_equal : Ty → Ty → Option Bool) (hrec_slices_EqualFunc_Type : slices_EqualFunc_Type_S rec_slices_EqualFunc_Type) (hrec_typing_equal : typing_equal_S rec_typing_equal) (p0 : List Ty) (p1 : List Ty) (r : Bool) (h : jZ n rec_slices_EqualFunc_Type rec_typing_equal p0 p1 = some r) : ak Tryz.prog 177 [aI p0, aI p1, .func 93 []] [] (.bool r) [] := by
 unfold jZ at h
 refine ah true Tryz.func177 rfl (nt Tryz.ntmps177 rfl) fun Q hQ t ht => ?_
 conv at ht => whnf
 subst ht
 refine .q fun K1 k1 => rg 0 ?_
 refine k1 _ _ ?_
 refine .q fun K2 k2 => .q fun K3 k3 => rg 0 ?_
 refine aW (l := p0) (f := aK) ?_
 refine aW (l := p1) (f := aK) ?_
 refine k3 _ _ ?_
 refine .aC rfl h (fun hc1 h => ?_) (fun hc1 h => ?_)
 ·refine .q fun K4 k4 => rg 0 ?_
  refine k4 _ _ ?_
  refine .ret ?_
  have e9 := sj h
  subst e9
  refine hQ _ _ _ (aj aD (fun g => rfl) ?_)
  conv => whnf
 refine .skip ?_
 refine k2 _ _ ?_
 refine .q fun K5 k5 => .q fun K6 k6 => rg 0 ?_
 refine aW (l := p0) (f := aK) ?_
 refine k6 _ _ ?_
 refine .block ?_
 obtain ⟨o1, ho1, h⟩ := ob h
 have hR1 : ∀ s2 : Unit, o1 = .nx s2 → ∀ t9 h9, Le 0 t9 h9 (u32 []) [] → K5 t9 h9 := by
  intro s2 ho
  subst ho
  dsimp only [LR.el] at h
  intro t9 h9 hw
  refine k5 _ _ (AW.le hw ?_)
  refine .q fun K7 k7 => rg 0 ?_
  refine k7 _ _ ?_
  refine .ret ?_
  have e9 := sj h
  subst e9
  refine hQ _ _ _ (aj aD (fun g => rfl) ?_)
  conv => whnf
 refine .loopS (lQ n rec_slices_EqualFunc_Type rec_typing_equal p0 p1) (fun (s1 : Int) => (.unk :: (aI p1 :: (.func 93 [] :: (u8 (u4 (aI p0 :: (.i (p0.length : Int) :: (.i s1 :: (u8 (u4 (u2 [])))))))))))) (fun (s1 : Int) => []) ho1 (fun _ => rfl) (li (.u (.s (.s (.u8 (.u4 (.s (.s (.s (.u8 (.u4 (.u2 .n)))))))))))) ?_
 intro n1 s1 hs1 KL1 hKL1
 unfold lQ at hs1
 refine .q fun K8 k8 => rg 0 ?_
 refine k8 _ _ ?_
 refine .q fun K9 k9 => ?_
 refine .aC rfl hs1 (fun hc2 hs1 => ?_) (fun hc2 hs1 => ?_)
 ·refine .skip ?_
  refine k9 _ _ ?_
  refine .q fun K10 k10 => ?_
  refine .block ?_
  refine .q fun K11 k11 => rg 1 ?_
  obtain ⟨x1, hx1, hs1⟩ := ob hs1
  refine aJ (l := p0) (f := aK) (cs := [.i ((x1).kind), .str ((x1).name), aI ((x1).kids)]) hx1 (aR x1) rfl ?_
  refine k11 _ _ ?_
  refine .q fun K12 k12 => rg 1 ?_
  obtain ⟨x2, hx2, hs1⟩ := ob hs1
  refine aJ (l := p1) (f := aK) (cs := [.i ((x2).kind), .str ((x2).name), aI ((x2).kids)]) hx2 (aR x2) rfl ?_
  refine k12 _ _ ?_
  refine .q fun K13 k13 => rg 0 ?_
  obtain ⟨x3, hx3, hs1⟩ := ob hs1
  refine au (hrec_typing_equal _ _ _ hx3) Bq (.cons (.same _) (.cons (.same _) .nil)) (fun g => by simp) (fun g => rfl) ?_
  refine k13 _ _ ?_
  refine .aC rfl hs1 (fun hc3 hs1 => ?_) (fun hc3 hs1 => ?_)
  ·refine .q fun K14 k14 => rg 0 ?_
   refine k14 _ _ ?_
   refine .ret ?_
   have e9 := sj hs1
   subst e9
   dsimp only [LR.el] at h
   have e9 := sj h
   subst e9
   refine hQ _ _ _ (aj aD (fun g => rfl) ?_)
   conv => whnf
  refine .skip ?_
  refine k10 _ _ ?_
  refine .know 7 0 fun hv1 => ?_
  refine .know 15 0 fun hv2 => ?_
  refine rg 0 ?_
  refine ⟨(s1 + 1), by have := dn hv1; have := eP hv2; have h8 := of_decide_eq_true hc2; exact bG (by omega) (by omega), ?_⟩
  exact hKL1 _ _ _ hs1 (wk [] (.u (.e aB (.cons (.func' .nil) (.u8 (.u4 (.e aB (.c rfl (.c rfl (.u8 (.u4 (.u2 .nil))))))))))) .nil rfl)
 refine .exit ?_
 exact hR1 _ (sj hs1).symm _ _ (li (.u16 (.u16 .n)))
theorem Mq (n : Nat) (rec_slices_EqualFunc_Type : (List Ty) → (List Ty) → Option Bool) (rec_typing_equal : Ty → Ty → Option Bool) (hrec_slices_EqualFunc_Type : slices_EqualFunc_Type_S rec_slices_EqualFunc_Type) (hrec_typing_equal : typing_equal_S rec_typing_equal) (p0 : Ty) (p1 : Ty) (r : Bool) (h : rX n rec_slices_EqualFunc_Type rec_typing_equal p0 p1 = some r) : ak Tryz.prog 93 [aV p0, aV p1] [] (.bool r) [] := by
 unfold rX at h
 refine ah true Tryz.func93 rfl (nt Tryz.ntmps93 rfl) fun Q hQ t ht => ?_
 conv at ht => whnf
 subst ht
 refine .q fun K1 k1 => rg 2 ?_
 refine k1 _ _ ?_
 refine .q fun K2 k2 => ?_
 obtain ⟨s1, hj1, h⟩ := ob h
 have hR1 : ∀ t9 h9, Le 0 t9 h9 (u4 (.bool s1 :: (u16 (u2 (.unk :: []))))) [] → K2 t9 h9 := by
  intro t9 h9 hw
  refine k2 _ _ (AW.le hw ?_)
  clear hw
  refine .ret ?_
  have e9 := sj h
  subst e9
  refine hQ _ _ _ (aj aD (fun g => rfl) ?_)
  conv => whnf
 refine rg 0 ?_
 refine aH hj1 (fun hc1 hj1 => ?_) (fun hc1 hj1 => ?_)
 ·refine aH hj1 (fun hc2 hj1 => ?_) (fun hc2 hj1 => ?_)
  ·obtain ⟨x1, hx1, hj1⟩ := ob hj1
   refine au (hrec_slices_EqualFunc_Type _ _ _ hx1) aqd (.cons (.same _) (.cons (.same _) (.cons (.same _) .nil))) (fun g => by simp) (fun g => rfl) ?_
   cases hj1
   exact hR1 _ _ (wk [] (.u4 (.c rfl (.u16 (.u2 (.u .nil))))) .nil rfl)
  cases hj1
  exact hR1 _ _ (wk [] (.u4 (.c rfl (.u16 (.u2 (.u .nil))))) .nil rfl)
 cases hj1
 exact hR1 _ _ (wk [] (.u4 (.c rfl (.u16 (.u2 (.u .nil))))) .nil rfl)
theorem zk (n : Nat) : slices_EqualFunc_Type_S (jq n) ∧ typing_equal_S (fO n) := by
 induction n with
 | zero => exact ⟨(fun p0 p1 r h => by unfold jq at h; cases h), (fun p0 p1 r h => by unfold fO at h; cases h)⟩
 | succ n ih =>
  exact ⟨(fun p0 p1 r h => Ea n _ _ ih.1 ih.2 p0 p1 r (by unfold jq at h; exact h)), (fun p0 p1 r h => Mq n _ _ ih.1 ih.2 p0 p1 r (by unfold fO at h; exact h))⟩
theorem kN (n : Nat) : typing_equal_S (fO n) := (zk n).2
theorem SI (n : Nat) (p0 : Ty) (p1 : List Ty) (r : Bool) (h : wW n p0 p1 = some r) : ak Tryz.prog 261 [aV p0, .ptr 0 0] [.box [aI p1]] (.bool r) [.box [aI p1]] := by
 unfold wW at h
 refine ah true Tryz.func261 rfl (nt Tryz.ntmps261 rfl) fun Q hQ t ht => ?_
 conv at ht => whnf
 subst ht
 refine .q fun K1 k1 => rg 1 ?_
 refine k1 _ _ ?_
 refine .q fun K2 k2 => rg 0 ?_
 obtain ⟨x1, hx1, h⟩ := ob h
 refine aJ (l := p1) (f := aK) (cs := [.i ((x1).kind), .str ((x1).name), aI ((x1).kids)]) hx1 (aR x1) rfl ?_
 obtain ⟨x2, hx2, h⟩ := ob h
 refine au (kN _ _ _ _ hx2) Bq (.cons (.same _) (.cons (.same _) .nil)) (fun g => by simp) (fun g => rfl) ?_
 refine ⟨rfl, ?_⟩
 refine k2 _ _ ?_
 refine .ret ?_
 have e9 := sj h
 subst e9
 refine hQ _ _ _ (dI (u2 (.unk :: (.bool (!x2) :: (u4 (u2 []))))) [.box [aI p1]] (wk [some 0] (.u2 (.u (.c rfl (.u4 (.u2 .nil))))) (.b rfl (.e aB .nil) .nil) rfl) (bP aD [0] rfl (.cons (by simp only [cO, ren, bW, bK, dJ, bN, aQ, aZ, bS, aB, aN, aA, aG, aP]; try rfl) .nil) ?_))
 conv => whnf
 first | rfl | (simp; done) | (simp; rfl) | (simp; constructor <;> rfl)
theorem FY (n : Nat) (p0 : List Ty) (p1 : List Ty) (r : Int) (h : pI n p0 p1 = some r) : ak Tryz.prog 245 [aI p0, .func 261 [.ptr 0 0]] [.box [aI p1]] (.i r) [.box [aI p1]] := by
 unfold pI at h
 refine ah true Tryz.func245 rfl (nt Tryz.ntmps245 rfl) fun Q hQ t ht => ?_
 conv at ht => whnf
 subst ht
 refine .q fun K1 k1 => rg 0 ?_
 refine k1 _ _ ?_
 refine .q fun K2 k2 => .q fun K3 k3 => rg 0 ?_
 refine aW (l := p0) (f := aK) ?_
 refine k3 _ _ ?_
 refine .block ?_
 obtain ⟨o1, ho1, h⟩ := ob h
 have hR1 : ∀ s2 : Unit, o1 = .nx s2 → ∀ t9 h9, Le 1 t9 h9 (u16 (u2 (.unk :: []))) [.box [aI p1]] → K2 t9 h9 := by
  intro s2 ho
  subst ho
  dsimp only [LR.el] at h
  intro t9 h9 hw
  refine k2 _ _ (AW.le hw ?_)
  refine .q fun K4 k4 => rg 0 ?_
  refine k4 _ _ ?_
  refine .ret ?_
  have e9 := sj h
  subst e9
  refine hQ _ _ _ (dI (u4 (.i (-1) :: (u8 (u4 (u2 []))))) [.box [aI p1]] (wk [some 0] (.u4 (.c rfl (.u8 (.u4 (.u2 .nil))))) (.b rfl (.e aB .nil) .nil) rfl) (bP aD [0] rfl (.cons (by simp only [cO, ren, bW, bK, dJ, bN, aQ, aZ, bS, aB, aN, aA, aG, aP]; try rfl) .nil) ?_))
  conv => whnf
  first | rfl | (simp; done) | (simp; rfl) | (simp; constructor <;> rfl)
 refine .loopS (j4 n p0 p1) (fun (s1 : Int) => (aI p0 :: (.func 261 [.ptr 0 0] :: (u4 (.unk :: (.i (p0.length : Int) :: (.i s1 :: (u8 (u2 []))))))))) (fun (s1 : Int) => [.box [aI p1]]) ho1 (fun _ => rfl) (li (.s (.s (.u4 (.u (.s (.s (.u8 (.u2 .n))))))))) ?_
 intro n1 s1 hs1 KL1 hKL1
 unfold j4 at hs1
 refine .q fun K5 k5 => rg 0 ?_
 refine k5 _ _ ?_
 refine .q fun K6 k6 => ?_
 refine .aC rfl hs1 (fun hc1 hs1 => ?_) (fun hc1 hs1 => ?_)
 ·refine .skip ?_
  refine k6 _ _ ?_
  refine .q fun K7 k7 => ?_
  refine .block ?_
  refine .q fun K8 k8 => rg 0 ?_
  refine k8 _ _ ?_
  refine .q fun K9 k9 => rg 0 ?_
  obtain ⟨x1, hx1, hs1⟩ := ob hs1
  refine aJ (l := p0) (f := aK) (cs := [.i ((x1).kind), .str ((x1).name), aI ((x1).kids)]) hx1 (aR x1) rfl ?_
  obtain ⟨x2, hx2, hs1⟩ := ob hs1
  refine bM [0] [] [aV x1, .ptr 0 0] [aV x1, .ptr 0 0] (SI _ _ _ _ hx2) aok rfl (.cons (by simp only [cO, ren, bW, bK, dJ, bN, aQ, aZ, bS, aB, aN, aA, aG, aP]; try rfl) .nil) (by simp; try decide) (.cons (.same _) (.cons (.same _) .nil)) (rn := .bool x2) (rfl) (Hn := [.box [aI p1]]) ((bI (by simp only [cO, ren, bW, bK, dJ, bN, aQ, aZ, bS, aB, aN, aA, aG, aP]; try rfl) rfl)) ?_
  refine k9 _ _ ?_
  refine .aC rfl hs1 (fun hc2 hs1 => ?_) (fun hc2 hs1 => ?_)
  ·refine .q fun K10 k10 => rg 0 ?_
   refine k10 _ _ ?_
   refine .ret ?_
   have e9 := sj hs1
   subst e9
   dsimp only [LR.el] at h
   have e9 := sj h
   subst e9
   refine hQ _ _ _ (dI (u4 (.i s1 :: (u8 (u4 (u2 []))))) [.box [aI p1]] (wk [some 0] (.u4 (.c rfl (.u8 (.u4 (.u2 .nil))))) (.b rfl (.e aB .nil) .nil) rfl) (bP aD [0] rfl (.cons (by simp only [cO, ren, bW, bK, dJ, bN, aQ, aZ, bS, aB, aN, aA, aG, aP]; try rfl) .nil) ?_))
   conv => whnf
   first | rfl | (simp; done) | (simp; rfl) | (simp; constructor <;> rfl)
  refine .skip ?_
  refine k7 _ _ ?_
  refine .know 5 0 fun hv1 => ?_
  refine .know 0 0 fun hv2 => ?_
  refine rg 0 ?_
  refine ⟨(s1 + 1), by have := dn hv1; have := eP hv2; have h8 := of_decide_eq_true hc1; exact bG (by omega) (by omega), ?_⟩
  exact hKL1 _ _ _ hs1 (li (.s (.s (.u4 (.u (.s (.s (.u8 (.u2 .n)))))))))
 refine .exit ?_
 exact hR1 _ (sj hs1).symm _ _ (li (.u16 (.u2 (.u .n))))
theorem Eb (n : Nat) (p0 : List Ty) (p1 : List Ty) (r : Bool) (h : nk n p0 p1 = some r) : ak Tryz.prog 178 [aI p0, .func 261 [.ptr 0 0]] [.box [aI p1]] (.bool r) [.box [aI p1]] := by
 unfold nk at h
 refine ah true Tryz.func178 rfl (nt Tryz.ntmps178 rfl) fun Q hQ t ht => ?_
 conv at ht => whnf
 subst ht
 refine .q fun K1 k1 => rg 0 ?_
 refine k1 _ _ ?_
 refine .q fun K2 k2 => rg 0 ?_
 obtain ⟨x1, hx1, h⟩ := ob h
 refine bM [0] [] [aI p0, .func 261 [.ptr 0 0]] [aI p0, .func 261 [.ptr 0 0]] (FY _ _ _ _ hx1) Rm rfl (.cons (by simp only [cO, ren, bW, bK, dJ, bN, aQ, aZ, bS, aB, aN, aA, aG, aP]; try rfl) .nil) (by simp; try decide) (.cons (.same _) (.cons (.same _) .nil)) (rn := .i x1) (rfl) (Hn := [.box [aI p1]]) ((bI (by simp only [cO, ren, bW, bK, dJ, bN, aQ, aZ, bS, aB, aN, aA, aG, aP]; try rfl) rfl)) ?_
 refine k2 _ _ ?_
 refine .ret ?_
 have e9 := sj h
 subst e9
 refine hQ _ _ _ (dI (u4 (.bool (decide (0 ≤ x1)) :: (u4 []))) [.box [aI p1]] (wk [some 0] (.u4 (.c rfl (.u4 .nil))) (.b rfl (.e aB .nil) .nil) rfl) (bP aD [0] rfl (.cons (by simp only [cO, ren, bW, bK, dJ, bN, aQ, aZ, bS, aB, aN, aA, aG, aP]; try rfl) .nil) ?_))
 conv => whnf
 first | rfl | (simp; done) | (simp; rfl) | (simp; constructor <;> rfl)
theorem vG (n : Nat) (p0 : List Ty) (r : Bool) (h : lK n p0 = some r) : ak Tryz.prog 202 [aI p0] [] (.bool r) [] := by
 unfold lK at h
 refine ah true Tryz.func202 rfl (nt Tryz.ntmps202 rfl) fun Q hQ t ht => ?_
 conv at ht => whnf
 subst ht
 refine .q fun K1 k1 => rg 1 ?_
 refine k1 _ _ ?_
 refine .q fun K2 k2 => ?_
 obtain ⟨s1, hj1, h⟩ := ob h
 have hR1 : ∀ t9 h9, Le 0 t9 h9 (u2 (.bool s1 :: (u8 (u2 (.unk :: []))))) [] → K2 t9 h9 := by
  intro t9 h9 hw
  refine k2 _ _ (AW.le hw ?_)
  clear hw
  refine .ret ?_
  have e9 := sj h
  subst e9
  refine hQ _ _ _ (aj aD (fun g => rfl) ?_)
  conv => whnf
 refine rg 0 ?_
 obtain ⟨x1, hx1, hj1⟩ := ob hj1
 refine aJ (l := p0) (f := aK) (cs := [.i ((x1).kind), .str ((x1).name), aI ((x1).kids)]) hx1 (aR x1) rfl ?_
 refine aH hj1 (fun hc1 hj1 => ?_) (fun hc1 hj1 => ?_)
 ·obtain ⟨x2, hx2, hj1⟩ := ob hj1
  refine bM [0] [] [aI p0, .func 261 [.ptr 0 0]] [aI p0, .func 261 [.ptr 0 0]] (Eb _ _ _ _ hx2) Rv rfl (.cons (by simp only [cO, ren, bW, bK, dJ, bN, aQ, aZ, bS, aB, aN, aA, aG, aP]; try rfl) .nil) (by simp; try decide) (.cons (.same _) (.cons (.same _) .nil)) (rn := .bool x2) (rfl) (Hn := [.box [aI p0]]) ((bI (by simp only [cO, ren, bW, bK, dJ, bN, aQ, aZ, bS, aB, aN, aA, aG, aP]; try rfl) rfl)) ?_
  cases hj1
  exact hR1 _ _ (wk [] (.u2 (.c rfl (.u8 (.u2 (.u .nil))))) .nil rfl)
 cases hj1
 exact hR1 _ _ (wk [] (.u2 (.c rfl (.u8 (.u2 (.u .nil))))) .nil rfl)
theorem Ia (n : Nat) (p0 : List Ty) (r : Ty × Bool) (h : rD n p0 = some r) : ak Tryz.prog 201 [aI p0] [] (.bq [aV r.1, .bool r.2]) [] := by
 unfold rD at h
 refine ah true Tryz.func201 rfl (nt Tryz.ntmps201 rfl) fun Q hQ t ht => ?_
 conv at ht => whnf
 subst ht
 refine .q fun K1 k1 => rg 1 ?_
 refine k1 _ _ ?_
 refine .q fun K2 k2 => rg 0 ?_
 refine au (oo 0 _ rfl) Ew .nil (fun g => rfl) (fun g => by simp) ?_
 obtain ⟨x1, hx1, h⟩ := ob h
 refine au (vG _ _ _ hx1) KT (.cons (.same _) .nil) (fun g => by simp) (fun g => rfl) ?_
 refine k2 _ _ ?_
 refine .ret ?_
 have e9 := sj h
 subst e9
 refine hQ _ _ _ (aj aD (fun g => by simp) ?_)
 conv => whnf
 try rfl
theorem HY (n : Nat) (p0 : List Ty) (r : Ty × Bool) (h : pz n p0 = some r) : ak Tryz.prog 216 [aI p0] [] (.bq [aV r.1, .bool r.2]) [] := by
 unfold pz at h
 refine ah true Tryz.func216 rfl (nt Tryz.ntmps216 rfl) fun Q hQ t ht => ?_
 conv at ht => whnf
 subst ht
 refine .q fun K1 k1 => rg 1 ?_
 refine k1 _ _ ?_
 refine .q fun K2 k2 => rg 1 ?_
 obtain ⟨x1, hx1, h⟩ := ob h
 refine aJ (l := p0) (f := aK) (cs := [.i ((x1).kind), .str ((x1).name), aI ((x1).kids)]) hx1 (aR x1) rfl ?_
 obtain ⟨x2, hx2, h⟩ := ob h
 refine cp (eB _ _ _ hx2) ru (.cons (.same _) .nil) ?_
 refine k2 _ _ ?_
 refine .q fun K3 k3 => ?_
 obtain ⟨s1, hj1, h⟩ := ob h
 have hR1 : ∀ t9 h9, Le 0 t9 h9 (u2 (.ptr 0 0 :: (.bool s1 :: (u16 (u2 []))))) [.box [.i 2, .str ([] : Str), aI ([])]] → K3 t9 h9 := by
  intro t9 h9 hw
  refine k3 _ _ (AW.le hw ?_)
  clear hw
  refine .ret ?_
  have e9 := sj h
  subst e9
  refine hQ _ _ _ (aj aD (fun g => by simp) ?_)
  conv => whnf
  try rfl
 refine rg 0 ?_
 refine au (oo 0 _ rfl) Ew .nil (fun g => rfl) (fun g => by simp) ?_
 refine aH hj1 (fun hc1 hj1 => ?_) (fun hc1 hj1 => ?_)
 ·obtain ⟨x3, hx3, hj1⟩ := ob hj1
  refine aJ (l := p0) (f := aK) (cs := [.i ((x3).kind), .str ((x3).name), aI ((x3).kids)]) hx3 (aR x3) rfl ?_
  obtain ⟨x4, hx4, hj1⟩ := ob hj1
  refine au (kN _ _ _ _ hx4) Bq (.cons (.same _) (.cons (.same _) .nil)) (fun g => by simp) (fun g => rfl) ?_
  refine ⟨rfl, ?_⟩
  cases hj1
  exact hR1 _ _ (wk [some 0] (.u2 (.c rfl (.c rfl (.u16 (.u2 .nil))))) (.b rfl (.c rfl (.c rfl (.e aB .nil))) .nil) rfl)
 refine ⟨rfl, ?_⟩
 cases hj1
 exact hR1 _ _ (wk [some 0] (.u2 (.c rfl (.c rfl (.u16 (.u2 .nil))))) (.b rfl (.c rfl (.c rfl (.e aB .nil))) .nil) rfl)
theorem Qm (n : Nat) (p0 : List Ty) (r : Ty × Bool) (h : rz n p0 = some r) : ak Tryz.prog 267 [aI p0, .eptr [.func 214 []]] [] (.bq [aV r.1, .bool r.2]) [] := by
 unfold rz at h
 refine ah true Tryz.func267 rfl (nt Tryz.ntmps267 rfl) fun Q hQ t ht => ?_
 conv at ht => whnf
 subst ht
 refine .q fun K1 k1 => rg 1 ?_
 refine k1 _ _ ?_
 refine .q fun K2 k2 => ?_
 obtain ⟨s1, hj1, h⟩ := ob h
 have hR1 : ∀ t9 h9, Le 0 t9 h9 (u2 (.unk :: (.ptr 0 0 :: (.bool s1 :: (u8 (u4 (u2 []))))))) [.box [.i 2, .str ([] : Str), aI ([])]] → K2 t9 h9 := by
  intro t9 h9 hw
  refine k2 _ _ (AW.le hw ?_)
  clear hw
  refine .ret ?_
  have e9 := sj h
  subst e9
  refine hQ _ _ _ (aj aD (fun g => by simp) ?_)
  conv => whnf
  try rfl
 refine rg 0 ?_
 obtain ⟨x1, hx1, hj1⟩ := ob hj1
 refine aJ (l := p0) (f := aK) (cs := [.i ((x1).kind), .str ((x1).name), aI ((x1).kids)]) hx1 (aR x1) rfl ?_
 refine cp (Ir 0 x1 _ rfl) aht (.cons (.same _) .nil) ?_
 obtain ⟨x2, hx2, hj1⟩ := ob hj1
 refine aJ (l := p0) (f := aK) (cs := [.i ((x2).kind), .str ((x2).name), aI ((x2).kids)]) hx2 (aR x2) rfl ?_
 refine aH hj1 (fun hc1 hj1 => ?_) (fun hc1 hj1 => ?_)
 ·obtain ⟨x3, hx3, hj1⟩ := ob hj1
  refine au (vG _ _ _ hx3) KT (.cons (.same _) .nil) (fun g => by simp) (fun g => rfl) ?_
  refine ⟨rfl, ?_⟩
  cases hj1
  exact hR1 _ _ (li (.u2 (.u (.s (.s (.u8 (.u4 (.u2 .n))))))))
 refine ⟨rfl, ?_⟩
 cases hj1
 exact hR1 _ _ (li (.u2 (.u (.s (.s (.u8 (.u4 (.u2 .n))))))))
theorem HV (n : Nat) (p0 : Ty) (p1 : Ty) (r : Ty) (h : NR n p0 p1 = some r) : ak Tryz.prog 219 [aV p0, aV p1] [] (aV r) [] := by
 unfold NR at h
 refine ah true Tryz.func219 rfl (nt Tryz.ntmps219 rfl) fun Q hQ t ht => ?_
 conv at ht => whnf
 subst ht
 refine .q fun K1 k1 => rg 3 ?_
 refine k1 _ _ ?_
 refine .q fun K2 k2 => rg 1 ?_
 refine ⟨List.map aK ([p0, p1]), by simp only [List.map_cons, List.map_nil, aR]; rfl, ?_⟩
 refine k2 _ _ ?_
 refine .ret ?_
 have e9 := sj h
 subst e9
 refine hQ _ _ _ (aj aD (fun g => by simp) ?_)
 conv => whnf
 try rfl
end Abs
end Go.Proofs.YtiiaccpcoclklaaGreat
