/-
  Contracts of Go functions (printed). Conditions: none.
-/
import Derived.KernelRfl
import Derived.Test.YtiiaccpcoclklaaGreatCAbs38x04b7ad
import Derived.Test.YtiiaccpcoclklaaGreatCDfxa6bced
import Derived.Test.YtiiaccpcoclklaaGreatCTDx83fdfc
import Derived.Test.YtiiaccpcoclklaaGreatCT8xcc98cb
import Derived.Test.YtiiaccpcoclklaaGreatCT9xac54ee
set_option linter.unusedSimpArgs false
set_option linter.unusedVariables false
namespace Go.Proofs.YtiiaccpcoclklaaGreat
namespace Abs
open Go Go.Proofs
set_option maxRecDepth 100000
set_option maxHeartbeats 40000000
theorem FD (n : Nat) (p0 : Ty) (r : Ty) (h : Lm n p0 = some r) : aA Tryz.prog 214 [aU p0] [] (aU r) [] := by
 unfold Lm at h
 refine ah true Tryz.func214 rfl (nt Tryz.ntmps214 rfl) fun Q hQ t ht => ?_
 conv at ht => whnf
 subst ht
 refine .q fun K1 k1 => rg 2 ?_
 refine k1 _ _ ?_
 refine .q fun K2 k2 => rg 0 ?_
 refine ak (mX 0 _ rfl) Ct .nil (fun g => rfl) (fun g => by simp) ?_
 refine k2 _ _ ?_
 refine .ret ?_
 have e9 := sj h
 subst e9
 refine hQ _ _ _ (aj aC (fun g => by simp) ?_)
 conv => whnf
 try rfl
theorem Dg (n : Nat) (p0 : List Ty) (r : Ty × Bool) (h : nE n p0 = some r) : aA Tryz.prog 266 [aH p0, .eptr [.func 214 []]] [] (.aZ [aU r.1, .bool r.2]) [] := by
 unfold nE at h
 refine ah true Tryz.func266 rfl (nt Tryz.ntmps266 rfl) fun Q hQ t ht => ?_
 conv at ht => whnf
 subst ht
 refine .q fun K1 k1 => rg 1 ?_
 refine k1 _ _ ?_
 refine .q fun K2 k2 => rg 0 ?_
 obtain ⟨x1, hx1, h⟩ := ob h
 refine aI (l := p0) (f := aF) (cs := [.i ((x1).kind), .str ((x1).name), aH ((x1).kids)]) hx1 (aL x1) rfl ?_
 refine cp (FD 0 x1 _ rfl) aeI (.cons (.same _) .nil) ?_
 obtain ⟨x2, hx2, h⟩ := ob h
 refine aI (l := p0) (f := aF) (cs := [.i ((x2).kind), .str ((x2).name), aH ((x2).kids)]) hx2 (aL x2) rfl ?_
 refine ⟨rfl, ?_⟩
 refine k2 _ _ ?_
 refine .ret ?_
 have e9 := sj h
 subst e9
 refine hQ _ _ _ (aj aC (fun g => by simp) ?_)
 conv => whnf
 try rfl
abbrev rY (rec_slices_EqualFunc_Type : (List Ty) → (List Ty) → Option Bool) : Prop := ∀ (p0 : List Ty) (p1 : List Ty) (r : Bool), rec_slices_EqualFunc_Type p0 p1 = some r → aA Tryz.prog 177 [aH p0, aH p1, .func 93 []] [] (.bool r) []
abbrev yt (rec_typing_equal : Ty → Ty → Option Bool) : Prop := ∀ (p0 : Ty) (p1 : Ty) (r : Bool), rec_typing_equal p0 p1 = some r → aA Tryz.prog 93 [aU p0, aU p1] [] (.bool r) []
theorem BD (n : Nat) (rec_slices_EqualFunc_Type : (List Ty) → (List Ty) → Option Bool) (rec_typing_equal : Ty → Ty → Option Bool) (hrec_slices_EqualFunc_Type : rY rec_slices_EqualFunc_Type) (hrec_typing_equal : yt rec_typing_equal) (p0 : List Ty) (p1 : List Ty) (r : Bool) (h : jv n rec_slices_EqualFunc_Type rec_typing_equal p0 p1 = some r) : aA Tryz.prog 177 [aH p0, aH p1, .func 93 []] [] (.bool r) [] := by
 unfold jv at h
 refine ah true Tryz.func177 rfl (nt Tryz.ntmps177 rfl) fun Q hQ t ht => ?_
 conv at ht => whnf
 subst ht
 refine .q fun K1 k1 => rg 0 ?_
 refine k1 _ _ ?_
 refine .q fun K2 k2 => .q fun K3 k3 => rg 0 ?_
 refine bB (l := p0) (f := aF) ?_
 refine bB (l := p1) (f := aF) ?_
 refine k3 _ _ ?_
 refine .aB rfl h (fun hc1 h => ?_) (fun hc1 h => ?_)
 ·refine .q fun K4 k4 => rg 0 ?_
  refine k4 _ _ ?_
  refine .ret ?_
  have e9 := sj h
  subst e9
  refine hQ _ _ _ (aj aC (fun g => rfl) ?_)
  conv => whnf
 refine .skip ?_
 refine k2 _ _ ?_
 refine .q fun K5 k5 => .q fun K6 k6 => rg 0 ?_
 refine bB (l := p0) (f := aF) ?_
 refine k6 _ _ ?_
 refine .block ?_
 obtain ⟨o1, ho1, h⟩ := ob h
 have hR1 : ∀ s2 : Unit, o1 = .nx s2 → ∀ t9 h9, Le 0 t9 h9 (u32 []) [] → K5 t9 h9 := by
  intro s2 ho
  subst ho
  dsimp only [LR.el] at h
  intro t9 h9 hw
  refine k5 _ _ (AW.le hw ?_)
  refine .q fun K7 k7 => rg 0 ?_
  refine k7 _ _ ?_
  refine .ret ?_
  have e9 := sj h
  subst e9
  refine hQ _ _ _ (aj aC (fun g => rfl) ?_)
  conv => whnf
 refine .loopS (kE n rec_slices_EqualFunc_Type rec_typing_equal p0 p1) (fun (s1 : Int) => (.unk :: (aH p1 :: (.func 93 [] :: (u8 (u4 (aH p0 :: (.i (p0.length : Int) :: (.i s1 :: (u8 (u4 (u2 [])))))))))))) (fun (s1 : Int) => []) ho1 (fun _ => rfl) (li (.u (.s (.s (.u8 (.u4 (.s (.s (.s (.u8 (.u4 (.u2 .n)))))))))))) ?_
 intro n1 s1 hs1 KL1 hKL1
 unfold kE at hs1
 refine .q fun K8 k8 => rg 0 ?_
 refine k8 _ _ ?_
 refine .q fun K9 k9 => ?_
 refine .aB rfl hs1 (fun hc2 hs1 => ?_) (fun hc2 hs1 => ?_)
 ·refine .skip ?_
  refine k9 _ _ ?_
  refine .q fun K10 k10 => ?_
  refine .block ?_
  refine .q fun K11 k11 => rg 1 ?_
  obtain ⟨x1, hx1, hs1⟩ := ob hs1
  refine aI (l := p0) (f := aF) (cs := [.i ((x1).kind), .str ((x1).name), aH ((x1).kids)]) hx1 (aL x1) rfl ?_
  refine k11 _ _ ?_
  refine .q fun K12 k12 => rg 1 ?_
  obtain ⟨x2, hx2, hs1⟩ := ob hs1
  refine aI (l := p1) (f := aF) (cs := [.i ((x2).kind), .str ((x2).name), aH ((x2).kids)]) hx2 (aL x2) rfl ?_
  refine k12 _ _ ?_
  refine .q fun K13 k13 => rg 0 ?_
  obtain ⟨x3, hx3, hs1⟩ := ob hs1
  refine ak (hrec_typing_equal _ _ _ hx3) Bh (.cons (.same _) (.cons (.same _) .nil)) (fun g => by simp) (fun g => rfl) ?_
  refine k13 _ _ ?_
  refine .aB rfl hs1 (fun hc3 hs1 => ?_) (fun hc3 hs1 => ?_)
  ·refine .q fun K14 k14 => rg 0 ?_
   refine k14 _ _ ?_
   refine .ret ?_
   have e9 := sj hs1
   subst e9
   dsimp only [LR.el] at h
   have e9 := sj h
   subst e9
   refine hQ _ _ _ (aj aC (fun g => rfl) ?_)
   conv => whnf
  refine .skip ?_
  refine k10 _ _ ?_
  refine .know 7 0 fun hv1 => ?_
  refine .know 15 0 fun hv2 => ?_
  refine rg 0 ?_
  refine ⟨(s1 + 1), by have := dK hv1; have := fU hv2; have h8 := of_decide_eq_true hc2; exact bI (by omega) (by omega), ?_⟩
  exact hKL1 _ _ _ hs1 (wk [] (.u (.e aD (.cons (.func' .nil) (.u8 (.u4 (.e aD (.c rfl (.c rfl (.u8 (.u4 (.u2 .nil))))))))))) .nil rfl)
 refine .exit ?_
 exact hR1 _ (sj hs1).symm _ _ (li (.u16 (.u16 .n)))
theorem Kr (n : Nat) (rec_slices_EqualFunc_Type : (List Ty) → (List Ty) → Option Bool) (rec_typing_equal : Ty → Ty → Option Bool) (hrec_slices_EqualFunc_Type : rY rec_slices_EqualFunc_Type) (hrec_typing_equal : yt rec_typing_equal) (p0 : Ty) (p1 : Ty) (r : Bool) (h : ql n rec_slices_EqualFunc_Type rec_typing_equal p0 p1 = some r) : aA Tryz.prog 93 [aU p0, aU p1] [] (.bool r) [] := by
 unfold ql at h
 refine ah true Tryz.func93 rfl (nt Tryz.ntmps93 rfl) fun Q hQ t ht => ?_
 conv at ht => whnf
 subst ht
 refine .q fun K1 k1 => rg 2 ?_
 refine k1 _ _ ?_
 refine .q fun K2 k2 => ?_
 obtain ⟨s1, hj1, h⟩ := ob h
 have hR1 : ∀ t9 h9, Le 0 t9 h9 (u4 (.bool s1 :: (u16 (u2 (.unk :: []))))) [] → K2 t9 h9 := by
  intro t9 h9 hw
  refine k2 _ _ (AW.le hw ?_)
  clear hw
  refine .ret ?_
  have e9 := sj h
  subst e9
  refine hQ _ _ _ (aj aC (fun g => rfl) ?_)
  conv => whnf
 refine rg 0 ?_
 refine aG hj1 (fun hc1 hj1 => ?_) (fun hc1 hj1 => ?_)
 ·refine aG hj1 (fun hc2 hj1 => ?_) (fun hc2 hj1 => ?_)
  ·obtain ⟨x1, hx1, hj1⟩ := ob hj1
   refine ak (hrec_slices_EqualFunc_Type _ _ _ hx1) ajJ (.cons (.same _) (.cons (.same _) (.cons (.same _) .nil))) (fun g => by simp) (fun g => rfl) ?_
   cases hj1
   exact hR1 _ _ (wk [] (.u4 (.c rfl (.u16 (.u2 (.u .nil))))) .nil rfl)
  cases hj1
  exact hR1 _ _ (wk [] (.u4 (.c rfl (.u16 (.u2 (.u .nil))))) .nil rfl)
 cases hj1
 exact hR1 _ _ (wk [] (.u4 (.c rfl (.u16 (.u2 (.u .nil))))) .nil rfl)
theorem El (n : Nat) : rY (ko n) ∧ yt (fH n) := by
 induction n with
 | zero => exact ⟨(fun p0 p1 r h => by unfold ko at h; cases h), (fun p0 p1 r h => by unfold fH at h; cases h)⟩
 | succ n ih =>
  exact ⟨(fun p0 p1 r h => BD n _ _ ih.1 ih.2 p0 p1 r (by unfold ko at h; exact h)), (fun p0 p1 r h => Kr n _ _ ih.1 ih.2 p0 p1 r (by unfold fH at h; exact h))⟩
theorem lD (n : Nat) : yt (fH n) := (El n).2
theorem Qf (n : Nat) (p0 : Ty) (p1 : List Ty) (r : Bool) (h : uU n p0 p1 = some r) : aA Tryz.prog 261 [aU p0, .ptr 0 0] [.box [aH p1]] (.bool r) [.box [aH p1]] := by
 unfold uU at h
 refine ah true Tryz.func261 rfl (nt Tryz.ntmps261 rfl) fun Q hQ t ht => ?_
 conv at ht => whnf
 subst ht
 refine .q fun K1 k1 => rg 1 ?_
 refine k1 _ _ ?_
 refine .q fun K2 k2 => rg 0 ?_
 obtain ⟨x1, hx1, h⟩ := ob h
 refine aI (l := p1) (f := aF) (cs := [.i ((x1).kind), .str ((x1).name), aH ((x1).kids)]) hx1 (aL x1) rfl ?_
 obtain ⟨x2, hx2, h⟩ := ob h
 refine ak (lD _ _ _ _ hx2) Bh (.cons (.same _) (.cons (.same _) .nil)) (fun g => by simp) (fun g => rfl) ?_
 refine ⟨rfl, ?_⟩
 refine k2 _ _ ?_
 refine .ret ?_
 have e9 := sj h
 subst e9
 refine hQ _ _ _ (dz (u2 (.unk :: (.bool (!x2) :: (u4 (u2 []))))) [.box [aH p1]] (wk [some 0] (.u2 (.u (.c rfl (.u4 (.u2 .nil))))) (.b rfl (.e aD .nil) .nil) rfl) (bG aC [0] rfl (.cons (by simp only [cK, ren, bR, bE, dO, bP, aQ, bf, bT, aD, aM, aK, aN, aT]; try rfl) .nil) ?_))
 conv => whnf
 first | rfl | (simp; done) | (simp; rfl) | (simp; constructor <;> rfl)
theorem DF (n : Nat) (p0 : List Ty) (p1 : List Ty) (r : Int) (h : nU n p0 p1 = some r) : aA Tryz.prog 245 [aH p0, .func 261 [.ptr 0 0]] [.box [aH p1]] (.i r) [.box [aH p1]] := by
 unfold nU at h
 refine ah true Tryz.func245 rfl (nt Tryz.ntmps245 rfl) fun Q hQ t ht => ?_
 conv at ht => whnf
 subst ht
 refine .q fun K1 k1 => rg 0 ?_
 refine k1 _ _ ?_
 refine .q fun K2 k2 => .q fun K3 k3 => rg 0 ?_
 refine bB (l := p0) (f := aF) ?_
 refine k3 _ _ ?_
 refine .block ?_
 obtain ⟨o1, ho1, h⟩ := ob h
 have hR1 : ∀ s2 : Unit, o1 = .nx s2 → ∀ t9 h9, Le 1 t9 h9 (u16 (u2 (.unk :: []))) [.box [aH p1]] → K2 t9 h9 := by
  intro s2 ho
  subst ho
  dsimp only [LR.el] at h
  intro t9 h9 hw
  refine k2 _ _ (AW.le hw ?_)
  refine .q fun K4 k4 => rg 0 ?_
  refine k4 _ _ ?_
  refine .ret ?_
  have e9 := sj h
  subst e9
  refine hQ _ _ _ (dz (u4 (.i (-1) :: (u8 (u4 (u2 []))))) [.box [aH p1]] (wk [some 0] (.u4 (.c rfl (.u8 (.u4 (.u2 .nil))))) (.b rfl (.e aD .nil) .nil) rfl) (bG aC [0] rfl (.cons (by simp only [cK, ren, bR, bE, dO, bP, aQ, bf, bT, aD, aM, aK, aN, aT]; try rfl) .nil) ?_))
  conv => whnf
  first | rfl | (simp; done) | (simp; rfl) | (simp; constructor <;> rfl)
 refine .loopS (jC n p0 p1) (fun (s1 : Int) => (aH p0 :: (.func 261 [.ptr 0 0] :: (u4 (.unk :: (.i (p0.length : Int) :: (.i s1 :: (u8 (u2 []))))))))) (fun (s1 : Int) => [.box [aH p1]]) ho1 (fun _ => rfl) (li (.s (.s (.u4 (.u (.s (.s (.u8 (.u2 .n))))))))) ?_
 intro n1 s1 hs1 KL1 hKL1
 unfold jC at hs1
 refine .q fun K5 k5 => rg 0 ?_
 refine k5 _ _ ?_
 refine .q fun K6 k6 => ?_
 refine .aB rfl hs1 (fun hc1 hs1 => ?_) (fun hc1 hs1 => ?_)
 ·refine .skip ?_
  refine k6 _ _ ?_
  refine .q fun K7 k7 => ?_
  refine .block ?_
  refine .q fun K8 k8 => rg 0 ?_
  refine k8 _ _ ?_
  refine .q fun K9 k9 => rg 0 ?_
  obtain ⟨x1, hx1, hs1⟩ := ob hs1
  refine aI (l := p0) (f := aF) (cs := [.i ((x1).kind), .str ((x1).name), aH ((x1).kids)]) hx1 (aL x1) rfl ?_
  obtain ⟨x2, hx2, hs1⟩ := ob hs1
  refine bU [0] [] [aU x1, .ptr 0 0] [aU x1, .ptr 0 0] (Qf _ _ _ _ hx2) alf rfl (.cons (by simp only [cK, ren, bR, bE, dO, bP, aQ, bf, bT, aD, aM, aK, aN, aT]; try rfl) .nil) (by simp; try decide) (.cons (.same _) (.cons (.same _) .nil)) (rn := .bool x2) (rfl) (Hn := [.box [aH p1]]) ((bK (by simp only [cK, ren, bR, bE, dO, bP, aQ, bf, bT, aD, aM, aK, aN, aT]; try rfl) rfl)) ?_
  refine k9 _ _ ?_
  refine .aB rfl hs1 (fun hc2 hs1 => ?_) (fun hc2 hs1 => ?_)
  ·refine .q fun K10 k10 => rg 0 ?_
   refine k10 _ _ ?_
   refine .ret ?_
   have e9 := sj hs1
   subst e9
   dsimp only [LR.el] at h
   have e9 := sj h
   subst e9
   refine hQ _ _ _ (dz (u4 (.i s1 :: (u8 (u4 (u2 []))))) [.box [aH p1]] (wk [some 0] (.u4 (.c rfl (.u8 (.u4 (.u2 .nil))))) (.b rfl (.e aD .nil) .nil) rfl) (bG aC [0] rfl (.cons (by simp only [cK, ren, bR, bE, dO, bP, aQ, bf, bT, aD, aM, aK, aN, aT]; try rfl) .nil) ?_))
   conv => whnf
   first | rfl | (simp; done) | (simp; rfl) | (simp; constructor <;> rfl)
  refine .skip ?_
  refine k7 _ _ ?_
  refine .know 5 0 fun hv1 => ?_
  refine .know 0 0 fun hv2 => ?_
  refine rg 0 ?_
  refine ⟨(s1 + 1), by have := dK hv1; have := fU hv2; have h8 := of_decide_eq_true hc1; exact bI (by omega) (by omega), ?_⟩
  exact hKL1 _ _ _ hs1 (li (.s (.s (.u4 (.u (.s (.s (.u8 (.u2 .n)))))))))
 refine .exit ?_
 exact hR1 _ (sj hs1).symm _ _ (li (.u16 (.u2 (.u .n))))
theorem BF (n : Nat) (p0 : List Ty) (p1 : List Ty) (r : Bool) (h : lY n p0 p1 = some r) : aA Tryz.prog 178 [aH p0, .func 261 [.ptr 0 0]] [.box [aH p1]] (.bool r) [.box [aH p1]] := by
 unfold lY at h
 refine ah true Tryz.func178 rfl (nt Tryz.ntmps178 rfl) fun Q hQ t ht => ?_
 conv at ht => whnf
 subst ht
 refine .q fun K1 k1 => rg 0 ?_
 refine k1 _ _ ?_
 refine .q fun K2 k2 => rg 0 ?_
 obtain ⟨x1, hx1, h⟩ := ob h
 refine bU [0] [] [aH p0, .func 261 [.ptr 0 0]] [aH p0, .func 261 [.ptr 0 0]] (DF _ _ _ _ hx1) O1 rfl (.cons (by simp only [cK, ren, bR, bE, dO, bP, aQ, bf, bT, aD, aM, aK, aN, aT]; try rfl) .nil) (by simp; try decide) (.cons (.same _) (.cons (.same _) .nil)) (rn := .i x1) (rfl) (Hn := [.box [aH p1]]) ((bK (by simp only [cK, ren, bR, bE, dO, bP, aQ, bf, bT, aD, aM, aK, aN, aT]; try rfl) rfl)) ?_
 refine k2 _ _ ?_
 refine .ret ?_
 have e9 := sj h
 subst e9
 refine hQ _ _ _ (dz (u4 (.bool (decide (0 ≤ x1)) :: (u4 []))) [.box [aH p1]] (wk [some 0] (.u4 (.c rfl (.u4 .nil))) (.b rfl (.e aD .nil) .nil) rfl) (bG aC [0] rfl (.cons (by simp only [cK, ren, bR, bE, dO, bP, aQ, bf, bT, aD, aM, aK, aN, aT]; try rfl) .nil) ?_))
 conv => whnf
 first | rfl | (simp; done) | (simp; rfl) | (simp; constructor <;> rfl)
theorem tq (n : Nat) (p0 : List Ty) (r : Bool) (h : kH n p0 = some r) : aA Tryz.prog 202 [aH p0] [] (.bool r) [] := by
 unfold kH at h
 refine ah true Tryz.func202 rfl (nt Tryz.ntmps202 rfl) fun Q hQ t ht => ?_
 conv at ht => whnf
 subst ht
 refine .q fun K1 k1 => rg 1 ?_
 refine k1 _ _ ?_
 refine .q fun K2 k2 => ?_
 obtain ⟨s1, hj1, h⟩ := ob h
 have hR1 : ∀ t9 h9, Le 0 t9 h9 (u2 (.bool s1 :: (u8 (u2 (.unk :: []))))) [] → K2 t9 h9 := by
  intro t9 h9 hw
  refine k2 _ _ (AW.le hw ?_)
  clear hw
  refine .ret ?_
  have e9 := sj h
  subst e9
  refine hQ _ _ _ (aj aC (fun g => rfl) ?_)
  conv => whnf
 refine rg 0 ?_
 obtain ⟨x1, hx1, hj1⟩ := ob hj1
 refine aI (l := p0) (f := aF) (cs := [.i ((x1).kind), .str ((x1).name), aH ((x1).kids)]) hx1 (aL x1) rfl ?_
 refine aG hj1 (fun hc1 hj1 => ?_) (fun hc1 hj1 => ?_)
 ·obtain ⟨x2, hx2, hj1⟩ := ob hj1
  refine bU [0] [] [aH p0, .func 261 [.ptr 0 0]] [aH p0, .func 261 [.ptr 0 0]] (BF _ _ _ _ hx2) O4 rfl (.cons (by simp only [cK, ren, bR, bE, dO, bP, aQ, bf, bT, aD, aM, aK, aN, aT]; try rfl) .nil) (by simp; try decide) (.cons (.same _) (.cons (.same _) .nil)) (rn := .bool x2) (rfl) (Hn := [.box [aH p0]]) ((bK (by simp only [cK, ren, bR, bE, dO, bP, aQ, bf, bT, aD, aM, aK, aN, aT]; try rfl) rfl)) ?_
  cases hj1
  exact hR1 _ _ (wk [] (.u2 (.c rfl (.u8 (.u2 (.u .nil))))) .nil rfl)
 cases hj1
 exact hR1 _ _ (wk [] (.u2 (.c rfl (.u8 (.u2 (.u .nil))))) .nil rfl)
theorem Fe (n : Nat) (p0 : List Ty) (r : Ty × Bool) (h : p8 n p0 = some r) : aA Tryz.prog 201 [aH p0] [] (.aZ [aU r.1, .bool r.2]) [] := by
 unfold p8 at h
 refine ah true Tryz.func201 rfl (nt Tryz.ntmps201 rfl) fun Q hQ t ht => ?_
 conv at ht => whnf
 subst ht
 refine .q fun K1 k1 => rg 1 ?_
 refine k1 _ _ ?_
 refine .q fun K2 k2 => rg 0 ?_
 refine ak (mX 0 _ rfl) Ct .nil (fun g => rfl) (fun g => by simp) ?_
 obtain ⟨x1, hx1, h⟩ := ob h
 refine ak (tq _ _ _ hx1) Jj (.cons (.same _) .nil) (fun g => by simp) (fun g => rfl) ?_
 refine k2 _ _ ?_
 refine .ret ?_
 have e9 := sj h
 subst e9
 refine hQ _ _ _ (aj aC (fun g => by simp) ?_)
 conv => whnf
 try rfl
theorem EM (n : Nat) (p0 : List Ty) (r : Ty × Bool) (h : nQ n p0 = some r) : aA Tryz.prog 216 [aH p0] [] (.aZ [aU r.1, .bool r.2]) [] := by
 unfold nQ at h
 refine ah true Tryz.func216 rfl (nt Tryz.ntmps216 rfl) fun Q hQ t ht => ?_
 conv at ht => whnf
 subst ht
 refine .q fun K1 k1 => rg 1 ?_
 refine k1 _ _ ?_
 refine .q fun K2 k2 => rg 1 ?_
 obtain ⟨x1, hx1, h⟩ := ob h
 refine aI (l := p0) (f := aF) (cs := [.i ((x1).kind), .str ((x1).name), aH ((x1).kids)]) hx1 (aL x1) rfl ?_
 obtain ⟨x2, hx2, h⟩ := ob h
 refine cp (dM _ _ _ hx2) pQ (.cons (.same _) .nil) ?_
 refine k2 _ _ ?_
 refine .q fun K3 k3 => ?_
 obtain ⟨s1, hj1, h⟩ := ob h
 have hR1 : ∀ t9 h9, Le 0 t9 h9 (u2 (.ptr 0 0 :: (.bool s1 :: (u16 (u2 []))))) [.box [.i 2, .str ([] : Str), aH ([])]] → K3 t9 h9 := by
  intro t9 h9 hw
  refine k3 _ _ (AW.le hw ?_)
  clear hw
  refine .ret ?_
  have e9 := sj h
  subst e9
  refine hQ _ _ _ (aj aC (fun g => by simp) ?_)
  conv => whnf
  try rfl
 refine rg 0 ?_
 refine ak (mX 0 _ rfl) Ct .nil (fun g => rfl) (fun g => by simp) ?_
 refine aG hj1 (fun hc1 hj1 => ?_) (fun hc1 hj1 => ?_)
 ·obtain ⟨x3, hx3, hj1⟩ := ob hj1
  refine aI (l := p0) (f := aF) (cs := [.i ((x3).kind), .str ((x3).name), aH ((x3).kids)]) hx3 (aL x3) rfl ?_
  obtain ⟨x4, hx4, hj1⟩ := ob hj1
  refine ak (lD _ _ _ _ hx4) Bh (.cons (.same _) (.cons (.same _) .nil)) (fun g => by simp) (fun g => rfl) ?_
  refine ⟨rfl, ?_⟩
  cases hj1
  exact hR1 _ _ (wk [some 0] (.u2 (.c rfl (.c rfl (.u16 (.u2 .nil))))) (.b rfl (.c rfl (.c rfl (.e aD .nil))) .nil) rfl)
 refine ⟨rfl, ?_⟩
 cases hj1
 exact hR1 _ _ (wk [some 0] (.u2 (.c rfl (.c rfl (.u16 (.u2 .nil))))) (.b rfl (.c rfl (.c rfl (.e aD .nil))) .nil) rfl)
theorem MQ (n : Nat) (p0 : List Ty) (r : Ty × Bool) (h : pK n p0 = some r) : aA Tryz.prog 267 [aH p0, .eptr [.func 214 []]] [] (.aZ [aU r.1, .bool r.2]) [] := by
 unfold pK at h
 refine ah true Tryz.func267 rfl (nt Tryz.ntmps267 rfl) fun Q hQ t ht => ?_
 conv at ht => whnf
 subst ht
 refine .q fun K1 k1 => rg 1 ?_
 refine k1 _ _ ?_
 refine .q fun K2 k2 => ?_
 obtain ⟨s1, hj1, h⟩ := ob h
 have hR1 : ∀ t9 h9, Le 0 t9 h9 (u2 (.unk :: (.ptr 0 0 :: (.bool s1 :: (u8 (u4 (u2 []))))))) [.box [.i 2, .str ([] : Str), aH ([])]] → K2 t9 h9 := by
  intro t9 h9 hw
  refine k2 _ _ (AW.le hw ?_)
  clear hw
  refine .ret ?_
  have e9 := sj h
  subst e9
  refine hQ _ _ _ (aj aC (fun g => by simp) ?_)
  conv => whnf
  try rfl
 refine rg 0 ?_
 obtain ⟨x1, hx1, hj1⟩ := ob hj1
 refine aI (l := p0) (f := aF) (cs := [.i ((x1).kind), .str ((x1).name), aH ((x1).kids)]) hx1 (aL x1) rfl ?_
 refine cp (FD 0 x1 _ rfl) aeI (.cons (.same _) .nil) ?_
 obtain ⟨x2, hx2, hj1⟩ := ob hj1
 refine aI (l := p0) (f := aF) (cs := [.i ((x2).kind), .str ((x2).name), aH ((x2).kids)]) hx2 (aL x2) rfl ?_
 refine aG hj1 (fun hc1 hj1 => ?_) (fun hc1 hj1 => ?_)
 ·obtain ⟨x3, hx3, hj1⟩ := ob hj1
  refine ak (tq _ _ _ hx3) Jj (.cons (.same _) .nil) (fun g => by simp) (fun g => rfl) ?_
  refine ⟨rfl, ?_⟩
  cases hj1
  exact hR1 _ _ (li (.u2 (.u (.s (.s (.u8 (.u4 (.u2 .n))))))))
 refine ⟨rfl, ?_⟩
 cases hj1
 exact hR1 _ _ (li (.u2 (.u (.s (.s (.u8 (.u4 (.u2 .n))))))))
theorem EX (n : Nat) (p0 : Ty) (p1 : Ty) (r : Ty) (h : Lc n p0 p1 = some r) : aA Tryz.prog 219 [aU p0, aU p1] [] (aU r) [] := by
 unfold Lc at h
 refine ah true Tryz.func219 rfl (nt Tryz.ntmps219 rfl) fun Q hQ t ht => ?_
 conv at ht => whnf
 subst ht
 refine .q fun K1 k1 => rg 3 ?_
 refine k1 _ _ ?_
 refine .q fun K2 k2 => rg 1 ?_
 refine ⟨List.map aF ([p0, p1]), by simp only [List.map_cons, List.map_nil, aL]; rfl, ?_⟩
 refine k2 _ _ ?_
 refine .ret ?_
 have e9 := sj h
 subst e9
 refine hQ _ _ _ (aj aC (fun g => by simp) ?_)
 conv => whnf
 try rfl
end Abs
end Go.Proofs.YtiiaccpcoclklaaGreat
