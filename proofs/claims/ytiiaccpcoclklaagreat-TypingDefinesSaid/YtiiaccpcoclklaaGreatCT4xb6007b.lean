/-
  Contracts of Go functions (printed). Conditions: none.
-/
import Derived.KernelRfl
import Derived.Test.YtiiaccpcoclklaaGreatCT3x0868a1
set_option linter.unusedSimpArgs false
set_option linter.unusedVariables false
namespace Go.Proofs.YtiiaccpcoclklaaGreat
namespace Abs
open Go Go.Proofs
set_option maxRecDepth 100000
set_option maxHeartbeats 40000000
theorem zS (n : Nat) (p0 : Ty) (r : List Str) (h : kR n p0 = some r) : ak Tryz.prog 45 [aV p0] [] (bQ r) [] := by
 unfold kR at h
 refine ah true Tryz.func45 rfl (nt Tryz.ntmps45 rfl) fun Q hQ t ht => ?_
 conv at ht => whnf
 subst ht
 refine .q fun K1 k1 => rg 1 ?_
 refine k1 _ _ ?_
 refine .q fun K2 k2 => .q fun K3 k3 => rg 0 ?_
 obtain ⟨x1, hx1, h⟩ := ob h
 refine au (oW _ _ _ hx1) KV (.cons (.same _) .nil) (fun g => by simp) (fun g => rfl) ?_
 refine k3 _ _ ?_
 refine .aC rfl h (fun hc1 h => ?_) (fun hc1 h => ?_)
 ·refine .q fun K4 k4 => rg 0 ?_
  refine k4 _ _ ?_
  refine .ret ?_
  have e9 := sj h
  subst e9
  refine hQ _ _ _ (aj aD (fun g => by simp) ?_)
  conv => whnf
  try rfl
 refine .skip ?_
 refine k2 _ _ ?_
 refine .q fun K5 k5 => rg 1 ?_
 refine k5 _ _ ?_
 refine .q fun K6 k6 => rg 0 ?_
 obtain ⟨x2, hx2, h⟩ := ob h
 refine bM [1] [] [aV p0, .mapr 0] [aV p0, .mapr 1] (TS _ _ _ _ hx2) aik rfl (.cons (congrArg AObj.mp (dS (f := (fun (x : Bool) => .bool x)) (fun g x => rfl) _ _)) .nil) (by simp; try decide) (.cons (.same _) (.cons (.same _) .nil)) (rn := .bq []) (rfl) (Hn := [.mp (eX x2)]) ((bI (congrArg AObj.mp (dS (f := (fun (x : Bool) => .bool x)) (fun g x => rfl) _ _)) rfl)) ?_
 refine k6 _ _ ?_
 refine .q fun K7 k7 => rg 1 ?_
 refine bM [1] [2] [.mapr 0] [.mapr 1] (SC 0 x2 _ rfl) aqg rfl (.cons (congrArg AObj.mp (dS (f := (fun (x : Bool) => .bool x)) (fun g x => rfl) _ _)) .nil) (by simp; try decide) (.cons (.same _) .nil) (rn := .func 185 [.ptr 2 0]) (by simp; try decide) (Hn := [.mp (eX x2), .box [.mapr 1]]) ((bI (congrArg AObj.mp (dS (f := (fun (x : Bool) => .bool x)) (fun g x => rfl) _ _)) (bI rfl rfl))) ?_
 obtain ⟨x3, hx3, h⟩ := ob h
 refine bM [1, 2] [] [.func 185 [.ptr 1 0]] [.func 185 [.ptr 2 0]] (IV _ _ _ hx3) apl rfl (.cons (congrArg AObj.mp (dS (f := (fun (x : Bool) => .bool x)) (fun g x => rfl) _ _)) (.cons rfl .nil)) (by simp; try decide) (.cons (.same _) .nil) (rn := bQ x3) (by simp; try decide) (Hn := [.mp (eX x2), .box [.mapr 1]]) ((bI (congrArg AObj.mp (dS (f := (fun (x : Bool) => .bool x)) (fun g x => rfl) _ _)) (bI rfl rfl))) ?_
 refine k7 _ _ ?_
 refine .ret ?_
 have e9 := sj h
 subst e9
 refine hQ _ _ _ (aj aD (fun g => by simp) ?_)
 conv => whnf
 try rfl
theorem Ky (n : Nat) (p0 : Carrier) (p1 : Str) (r : Bool) (h : En n p0 p1 = some r) : ak Tryz.prog 248 [.agg [.str p0.name, bQ p0.elems], .ptr 0 0] [.box [.str p1]] (.bool r) [.box [.str p1]] := by
 unfold En at h
 refine ah true Tryz.func248 rfl (nt Tryz.ntmps248 rfl) fun Q hQ t ht => ?_
 conv at ht => whnf
 subst ht
 refine .q fun K1 k1 => rg 1 ?_
 refine k1 _ _ ?_
 refine .q fun K2 k2 => rg 0 ?_
 refine k2 _ _ ?_
 refine .ret ?_
 have e9 := sj h
 subst e9
 refine hQ _ _ _ (dI (u2 (.unk :: (.bool (p0.name == p1) :: (u4 [])))) [.box [.str p1]] (wk [some 0] (.u2 (.u (.c rfl (.u4 .nil)))) (.b rfl (.c rfl .nil) .nil) rfl) (bP aD [0] rfl (.cons (rfl) .nil) ?_))
 conv => whnf
 first | rfl | (simp; done) | (simp; rfl) | (simp; constructor <;> rfl)
theorem Fj (n : Nat) (p0 : List Carrier) (p1 : Str) (r : Int) (h : oU n p0 p1 = some r) : ak Tryz.prog 123 [bT p0, .func 248 [.ptr 0 0]] [.box [.str p1]] (.i r) [.box [.str p1]] := by
 unfold oU at h
 refine ah true Tryz.func123 rfl (nt Tryz.ntmps123 rfl) fun Q hQ t ht => ?_
 conv at ht => whnf
 subst ht
 refine .q fun K1 k1 => rg 0 ?_
 refine k1 _ _ ?_
 refine .q fun K2 k2 => .q fun K3 k3 => rg 0 ?_
 refine aW (l := p0) (f := aL) ?_
 refine k3 _ _ ?_
 refine .block ?_
 obtain ⟨o1, ho1, h⟩ := ob h
 have hR1 : ∀ s2 : Unit, o1 = .nx s2 → ∀ t9 h9, Le 1 t9 h9 (u16 (u2 (.unk :: []))) [.box [.str p1]] → K2 t9 h9 := by
  intro s2 ho
  subst ho
  dsimp only [LR.el] at h
  intro t9 h9 hw
  refine k2 _ _ (AW.le hw ?_)
  refine .q fun K4 k4 => rg 0 ?_
  refine k4 _ _ ?_
  refine .ret ?_
  have e9 := sj h
  subst e9
  refine hQ _ _ _ (dI (u4 (.i (-1) :: (u8 (u4 (u2 []))))) [.box [.str p1]] (wk [some 0] (.u4 (.c rfl (.u8 (.u4 (.u2 .nil))))) (.b rfl (.c rfl .nil) .nil) rfl) (bP aD [0] rfl (.cons (rfl) .nil) ?_))
  conv => whnf
  first | rfl | (simp; done) | (simp; rfl) | (simp; constructor <;> rfl)
 refine .loopS (jQ n p0 p1) (fun (s1 : Int) => (bT p0 :: (.func 248 [.ptr 0 0] :: (u4 (.unk :: (.i (p0.length : Int) :: (.i s1 :: (u8 (u2 []))))))))) (fun (s1 : Int) => [.box [.str p1]]) ho1 (fun _ => rfl) (li (.s (.s (.u4 (.u (.s (.s (.u8 (.u2 .n))))))))) ?_
 intro n1 s1 hs1 KL1 hKL1
 unfold jQ at hs1
 refine .q fun K5 k5 => rg 0 ?_
 refine k5 _ _ ?_
 refine .q fun K6 k6 => ?_
 refine .aC rfl hs1 (fun hc1 hs1 => ?_) (fun hc1 hs1 => ?_)
 ·refine .skip ?_
  refine k6 _ _ ?_
  refine .q fun K7 k7 => ?_
  refine .block ?_
  refine .q fun K8 k8 => rg 0 ?_
  refine k8 _ _ ?_
  refine .q fun K9 k9 => rg 0 ?_
  obtain ⟨x1, hx1, hs1⟩ := ob hs1
  refine aJ (l := p0) (f := aL) (cs := [.str ((x1).name), bQ ((x1).elems)]) hx1 (rfl) rfl ?_
  refine bM [0] [] [.agg [.str x1.name, bQ x1.elems], .ptr 0 0] [.agg [.str x1.name, bQ x1.elems], .ptr 0 0] (Ky 0 x1 p1 _ rfl) apa rfl (.cons (rfl) .nil) (by simp; try decide) (.cons (.same _) (.cons (.same _) .nil)) (rn := .bool (x1.name == p1)) (rfl) (Hn := [.box [.str p1]]) ((bI (rfl) rfl)) ?_
  refine k9 _ _ ?_
  refine .aC rfl hs1 (fun hc2 hs1 => ?_) (fun hc2 hs1 => ?_)
  ·refine .q fun K10 k10 => rg 0 ?_
   refine k10 _ _ ?_
   refine .ret ?_
   have e9 := sj hs1
   subst e9
   dsimp only [LR.el] at h
   have e9 := sj h
   subst e9
   refine hQ _ _ _ (dI (u4 (.i s1 :: (u8 (u4 (u2 []))))) [.box [.str p1]] (wk [some 0] (.u4 (.c rfl (.u8 (.u4 (.u2 .nil))))) (.b rfl (.c rfl .nil) .nil) rfl) (bP aD [0] rfl (.cons (rfl) .nil) ?_))
   conv => whnf
   first | rfl | (simp; done) | (simp; rfl) | (simp; constructor <;> rfl)
  refine .skip ?_
  refine k7 _ _ ?_
  refine .know 5 0 fun hv1 => ?_
  refine .know 0 0 fun hv2 => ?_
  refine rg 0 ?_
  refine ⟨(s1 + 1), by have := dn hv1; have := eP hv2; have h8 := of_decide_eq_true hc1; exact bG (by omega) (by omega), ?_⟩
  exact hKL1 _ _ _ hs1 (li (.s (.s (.u4 (.u (.s (.s (.u8 (.u2 .n)))))))))
 refine .exit ?_
 exact hR1 _ (sj hs1).symm _ _ (li (.u16 (.u2 (.u .n))))
theorem D6 (n : Nat) (p0 : List Carrier) (p1 : Str) (r : Bool) (h : mF n p0 p1 = some r) : ak Tryz.prog 247 [bT p0, .func 248 [.ptr 0 0]] [.box [.str p1]] (.bool r) [.box [.str p1]] := by
 unfold mF at h
 refine ah true Tryz.func247 rfl (nt Tryz.ntmps247 rfl) fun Q hQ t ht => ?_
 conv at ht => whnf
 subst ht
 refine .q fun K1 k1 => rg 0 ?_
 refine k1 _ _ ?_
 refine .q fun K2 k2 => rg 0 ?_
 obtain ⟨x1, hx1, h⟩ := ob h
 refine bM [0] [] [bT p0, .func 248 [.ptr 0 0]] [bT p0, .func 248 [.ptr 0 0]] (Fj _ _ _ _ hx1) ahf rfl (.cons (rfl) .nil) (by simp; try decide) (.cons (.same _) (.cons (.same _) .nil)) (rn := .i x1) (rfl) (Hn := [.box [.str p1]]) ((bI (rfl) rfl)) ?_
 refine k2 _ _ ?_
 refine .ret ?_
 have e9 := sj h
 subst e9
 refine hQ _ _ _ (dI (u4 (.bool (decide (0 ≤ x1)) :: (u4 []))) [.box [.str p1]] (wk [some 0] (.u4 (.c rfl (.u4 .nil))) (.b rfl (.c rfl .nil) .nil) rfl) (bP aD [0] rfl (.cons (rfl) .nil) ?_))
 conv => whnf
 first | rfl | (simp; done) | (simp; rfl) | (simp; constructor <;> rfl)
theorem Mv (n : Nat) (p0 : Env) (p1 : Str) (r : Bool) (h : rW n p0 p1 = some r) : ak Tryz.prog 182 [dz p0, .str p1] [] (.bool r) [] := by
 unfold rW at h
 refine ah true Tryz.func182 rfl (nt Tryz.ntmps182 rfl) fun Q hQ t ht => ?_
 conv at ht => whnf
 subst ht
 refine .q fun K1 k1 => rg 2 ?_
 refine k1 _ _ ?_
 refine .q fun K2 k2 => rg 0 ?_
 obtain ⟨x1, hx1, h⟩ := ob h
 refine bM [1] [] [bT p0.carriers, .func 248 [.ptr 0 0]] [bT p0.carriers, .func 248 [.ptr 1 0]] (D6 _ _ _ _ hx1) aqh rfl (.cons (rfl) .nil) (by simp; try decide) (.cons (.same _) (.cons (.same _) .nil)) (rn := .bool x1) (rfl) (Hn := [.box [.str p1]]) ((bI (rfl) rfl)) ?_
 refine k2 _ _ ?_
 refine .ret ?_
 have e9 := sj h
 subst e9
 refine hQ _ _ _ (aj aD (fun g => rfl) ?_)
 conv => whnf
theorem Md (n : Nat) (p0 : Str) (p1 : List Carrier) (p2 : List Decl) (r : Bool) (h : rP n p0 p1 p2 = some r) : ak Tryz.prog 181 [.str p0, .ptr 0 0] [.box [bT p1, bU p2]] (.bool r) [.box [bT p1, bU p2]] := by
 unfold rP at h
 refine ah true Tryz.func181 rfl (nt Tryz.ntmps181 rfl) fun Q hQ t ht => ?_
 conv at ht => whnf
 subst ht
 refine .q fun K1 k1 => rg 0 ?_
 refine k1 _ _ ?_
 refine .q fun K2 k2 => rg 0 ?_
 obtain ⟨x1, hx1, h⟩ := ob h
 refine au (Mv _ _ _ _ hx1) ap6 (.cons (.same _) (.cons (.same _) .nil)) (fun g => by simp) (fun g => rfl) ?_
 refine k2 _ _ ?_
 refine .ret ?_
 have e9 := sj h
 subst e9
 refine hQ _ _ _ (dI (u2 (.unk :: (.bool (!x1) :: (u4 [])))) [.box [bT p1, bU p2]] (wk [some 0] (.u2 (.u (.c rfl (.u4 .nil)))) (.b rfl (.e aA (.e aG .nil)) .nil) rfl) (bP aD [0] rfl (.cons (by simp only [cO, ren, bW, bK, dJ, bN, aQ, aZ, bS, aB, aN, aA, aG, aP]; try rfl) .nil) ?_))
 conv => whnf
 first | rfl | (simp; done) | (simp; rfl) | (simp; constructor <;> rfl)
theorem FW (n : Nat) (p0 : List Str) (p1 : List Carrier) (p2 : List Decl) (r : Int) (h : pK n p0 p1 p2 = some r) : ak Tryz.prog 246 [bQ p0, .func 181 [.ptr 0 0]] [.box [bT p1, bU p2]] (.i r) [.box [bT p1, bU p2]] := by
 unfold pK at h
 refine ah true Tryz.func246 rfl (nt Tryz.ntmps246 rfl) fun Q hQ t ht => ?_
 conv at ht => whnf
 subst ht
 refine .q fun K1 k1 => rg 0 ?_
 refine k1 _ _ ?_
 refine .q fun K2 k2 => .q fun K3 k3 => rg 0 ?_
 refine aW (l := p0) (f := encS) ?_
 refine k3 _ _ ?_
 refine .block ?_
 obtain ⟨o1, ho1, h⟩ := ob h
 have hR1 : ∀ s2 : Unit, o1 = .nx s2 → ∀ t9 h9, Le 1 t9 h9 (u16 (u2 (.unk :: []))) [.box [bT p1, bU p2]] → K2 t9 h9 := by
  intro s2 ho
  subst ho
  dsimp only [LR.el] at h
  intro t9 h9 hw
  refine k2 _ _ (AW.le hw ?_)
  refine .q fun K4 k4 => rg 0 ?_
  refine k4 _ _ ?_
  refine .ret ?_
  have e9 := sj h
  subst e9
  refine hQ _ _ _ (dI (u4 (.i (-1) :: (u8 (u4 (u2 []))))) [.box [bT p1, bU p2]] (wk [some 0] (.u4 (.c rfl (.u8 (.u4 (.u2 .nil))))) (.b rfl (.e aA (.e aG .nil)) .nil) rfl) (bP aD [0] rfl (.cons (by simp only [cO, ren, bW, bK, dJ, bN, aQ, aZ, bS, aB, aN, aA, aG, aP]; try rfl) .nil) ?_))
  conv => whnf
  first | rfl | (simp; done) | (simp; rfl) | (simp; constructor <;> rfl)
 refine .loopS (ko n p0 p1 p2) (fun (s1 : Int) => (bQ p0 :: (.func 181 [.ptr 0 0] :: (u4 (.unk :: (.i (p0.length : Int) :: (.i s1 :: (u8 (u2 []))))))))) (fun (s1 : Int) => [.box [bT p1, bU p2]]) ho1 (fun _ => rfl) (li (.s (.s (.u4 (.u (.s (.s (.u8 (.u2 .n))))))))) ?_
 intro n1 s1 hs1 KL1 hKL1
 unfold ko at hs1
 refine .q fun K5 k5 => rg 0 ?_
 refine k5 _ _ ?_
 refine .q fun K6 k6 => ?_
 refine .aC rfl hs1 (fun hc1 hs1 => ?_) (fun hc1 hs1 => ?_)
 ·refine .skip ?_
  refine k6 _ _ ?_
  refine .q fun K7 k7 => ?_
  refine .block ?_
  refine .q fun K8 k8 => rg 0 ?_
  refine k8 _ _ ?_
  refine .q fun K9 k9 => rg 0 ?_
  obtain ⟨x1, hx1, hs1⟩ := ob hs1
  refine aJ (l := p0) (f := encS) (cs := [.str (x1)]) hx1 (rfl) rfl ?_
  obtain ⟨x2, hx2, hs1⟩ := ob hs1
  refine bM [0] [] [.str x1, .ptr 0 0] [.str x1, .ptr 0 0] (Md _ _ _ _ _ hx2) aoZ rfl (.cons (by simp only [cO, ren, bW, bK, dJ, bN, aQ, aZ, bS, aB, aN, aA, aG, aP]; try rfl) .nil) (rfl) (.cons (.same _) (.cons (.same _) .nil)) (rn := .bool x2) (rfl) (Hn := [.box [bT p1, bU p2]]) ((bI (by simp only [cO, ren, bW, bK, dJ, bN, aQ, aZ, bS, aB, aN, aA, aG, aP]; try rfl) rfl)) ?_
  refine k9 _ _ ?_
  refine .aC rfl hs1 (fun hc2 hs1 => ?_) (fun hc2 hs1 => ?_)
  ·refine .q fun K10 k10 => rg 0 ?_
   refine k10 _ _ ?_
   refine .ret ?_
   have e9 := sj hs1
   subst e9
   dsimp only [LR.el] at h
   have e9 := sj h
   subst e9
   refine hQ _ _ _ (dI (u4 (.i s1 :: (u8 (u4 (u2 []))))) [.box [bT p1, bU p2]] (wk [some 0] (.u4 (.c rfl (.u8 (.u4 (.u2 .nil))))) (.b rfl (.e aA (.e aG .nil)) .nil) rfl) (bP aD [0] rfl (.cons (by simp only [cO, ren, bW, bK, dJ, bN, aQ, aZ, bS, aB, aN, aA, aG, aP]; try rfl) .nil) ?_))
   conv => whnf
   first | rfl | (simp; done) | (simp; rfl) | (simp; constructor <;> rfl)
  refine .skip ?_
  refine k7 _ _ ?_
  refine .know 5 0 fun hv1 => ?_
  refine .know 0 0 fun hv2 => ?_
  refine rg 0 ?_
  refine ⟨(s1 + 1), by have := dn hv1; have := eP hv2; have h8 := of_decide_eq_true hc1; exact bG (by omega) (by omega), ?_⟩
  exact hKL1 _ _ _ hs1 (li (.s (.s (.u4 (.u (.s (.s (.u8 (.u2 .n)))))))))
 refine .exit ?_
 exact hR1 _ (sj hs1).symm _ _ (li (.u16 (.u2 (.u .n))))
theorem Ee (n : Nat) (p0 : List Str) (p1 : List Carrier) (p2 : List Decl) (r : Bool) (h : nu n p0 p1 p2 = some r) : ak Tryz.prog 180 [bQ p0, .func 181 [.ptr 0 0]] [.box [bT p1, bU p2]] (.bool r) [.box [bT p1, bU p2]] := by
 unfold nu at h
 refine ah true Tryz.func180 rfl (nt Tryz.ntmps180 rfl) fun Q hQ t ht => ?_
 conv at ht => whnf
 subst ht
 refine .q fun K1 k1 => rg 0 ?_
 refine k1 _ _ ?_
 refine .q fun K2 k2 => rg 0 ?_
 obtain ⟨x1, hx1, h⟩ := ob h
 refine bM [0] [] [bQ p0, .func 181 [.ptr 0 0]] [bQ p0, .func 181 [.ptr 0 0]] (FW _ _ _ _ _ hx1) aiy rfl (.cons (by simp only [cO, ren, bW, bK, dJ, bN, aQ, aZ, bS, aB, aN, aA, aG, aP]; try rfl) .nil) (by simp; try decide) (.cons (.same _) (.cons (.same _) .nil)) (rn := .i x1) (rfl) (Hn := [.box [bT p1, bU p2]]) ((bI (by simp only [cO, ren, bW, bK, dJ, bN, aQ, aZ, bS, aB, aN, aA, aG, aP]; try rfl) rfl)) ?_
 refine k2 _ _ ?_
 refine .ret ?_
 have e9 := sj h
 subst e9
 refine hQ _ _ _ (dI (u4 (.bool (decide (0 ≤ x1)) :: (u4 []))) [.box [bT p1, bU p2]] (wk [some 0] (.u4 (.c rfl (.u4 .nil))) (.b rfl (.e aA (.e aG .nil)) .nil) rfl) (bP aD [0] rfl (.cons (by simp only [cO, ren, bW, bK, dJ, bN, aQ, aZ, bS, aB, aN, aA, aG, aP]; try rfl) .nil) ?_))
 conv => whnf
 first | rfl | (simp; done) | (simp; rfl) | (simp; constructor <;> rfl)
theorem zA (n : Nat) (p0 : Env) (p1 : Ty) (r : Bool) (h : mH n p0 p1 = some r) : ak Tryz.prog 97 [dz p0, aV p1] [] (.bool r) [] := by
 unfold mH at h
 refine ah true Tryz.func97 rfl (nt Tryz.ntmps97 rfl) fun Q hQ t ht => ?_
 conv at ht => whnf
 subst ht
 refine .q fun K1 k1 => rg 2 ?_
 refine k1 _ _ ?_
 refine .q fun K2 k2 => rg 0 ?_
 obtain ⟨x1, hx1, h⟩ := ob h
 refine cp (zS _ _ _ hx1) aeJ (.cons (.same _) .nil) ?_
 obtain ⟨x2, hx2, h⟩ := ob h
 refine bM [0] [] [bQ x1, .func 181 [.ptr 0 0]] [bQ x1, .func 181 [.ptr 0 0]] (Ee _ _ _ _ _ hx2) ag5 rfl (.cons (by simp only [cO, ren, bW, bK, dJ, bN, aQ, aZ, bS, aB, aN, aA, aG, aP]; try rfl) .nil) (by simp; try decide) (.cons (.same _) (.cons (.same _) .nil)) (rn := .bool x2) (rfl) (Hn := [.box [bT p0.carriers, bU p0.names]]) ((bI (by simp only [cO, ren, bW, bK, dJ, bN, aQ, aZ, bS, aB, aN, aA, aG, aP]; try rfl) rfl)) ?_
 refine k2 _ _ ?_
 refine .ret ?_
 have e9 := sj h
 subst e9
 refine hQ _ _ _ (aj aD (fun g => rfl) ?_)
 conv => whnf
theorem zM (n : Nat) (p0 : Env) (r : List Str) (h : oq n p0 = some r) : ak Tryz.prog 114 [dz p0] [] (.slice (List.map encS r) (.tip 0 1)) [.tip (List.length r * 1)] := by
 unfold oq at h
 refine ah false Tryz.func114 rfl (nt Tryz.ntmps114 rfl) fun Q hQ t ht => ?_
 conv at ht => whnf
 subst ht
 refine .q fun K1 k1 => rg 1 ?_
 refine k1 _ _ ?_
 refine .q fun K2 k2 => rg 0 ?_
 refine k2 _ _ ?_
 refine .q fun K3 k3 => .q fun K4 k4 => rg 0 ?_
 refine aW (l := p0.carriers) (f := aL) ?_
 refine k4 _ _ ?_
 refine .block ?_
 obtain ⟨o1, ho1, h⟩ := ob h
 have hR1 : ∀ s2 : List Str, o1 = .nx s2 → ∀ t9 h9, Le 0 t9 h9 (.unk :: (.ptr 0 0 :: (.unk :: (.slice (List.map encS s2) (.tip 1 1) :: (u32 (u2 [])))))) [.box [bT p0.carriers, bU p0.names], .tip (List.length s2 * 1)] → K3 t9 h9 := by
  intro s2 ho
  subst ho
  dsimp only [LR.el] at h
  intro t9 h9 hw
  refine k3 _ _ (AW.le hw ?_)
  refine .q fun K5 k5 => .q fun K6 k6 => rg 0 ?_
  refine aW (l := p0.names) (f := aO) ?_
  refine k6 _ _ ?_
  refine .block ?_
  obtain ⟨o2, ho2, h⟩ := ob h
  have hR2 : ∀ s4 : List Str, o2 = .nx s4 → ∀ t9 h9, Le 0 t9 h9 (u2 (.unk :: (.slice (List.map encS s4) (.tip 0 1) :: (u32 (u2 []))))) [.tip (List.length s4 * 1)] → K5 t9 h9 := by
   intro s4 ho
   subst ho
   dsimp only [LR.el] at h
   intro t9 h9 hw
   refine k5 _ _ (AW.le hw ?_)
   refine .q fun K7 k7 => rg 0 ?_
   refine k7 _ _ ?_
   refine .ret ?_
   have e9 := sj h
   subst e9
   refine hQ _ _ _ (dI (u2 (.slice (List.map encS s4) (.tip 0 1) :: (u32 (u2 (.unk :: []))))) [.tip (List.length s4 * 1)] (wk [some 0] (.u2 (.cons (.bF (aZ _ _) rfl) (.u32 (.u2 (.u .nil))))) (.t rfl .nil) rfl) (bP aD [0] rfl (.cons (rfl) .nil) ?_))
   conv => whnf
   first | rfl | (simp; done) | (simp; rfl) | (simp; constructor <;> rfl)
  refine .loopS (qx n p0) (fun (s3 : (List Str) × Int) => (u2 (.unk :: (.slice (List.map encS s3.1) (.tip 0 1) :: (u16 (u4 (.unk :: (bU p0.names :: (.i (p0.names.length : Int) :: (.i s3.2 :: (u8 (u2 [])))))))))))) (fun (s3 : (List Str) × Int) => [.tip (List.length s3.1 * 1)]) ho2 (fun _ => rfl) (wk [some 1] (.u2 (.u (.cons (.bF (aZ _ _) rfl) (.u16 (.u4 (.u (.e aG (.c rfl (.c rfl (.u8 (.u2 .nil))))))))))) (.t rfl .nil) rfl) ?_
  intro n2 s3 hs2 KL2 hKL2
  unfold qx at hs2
  refine .q fun K8 k8 => rg 0 ?_
  refine k8 _ _ ?_
  refine .q fun K9 k9 => ?_
  refine .aC rfl hs2 (fun hc1 hs2 => ?_) (fun hc1 hs2 => ?_)
  ·refine .skip ?_
   refine k9 _ _ ?_
   refine .q fun K10 k10 => ?_
   refine .block ?_
   refine .q fun K11 k11 => rg 1 ?_
   obtain ⟨x1, hx1, hs2⟩ := ob hs2
   refine aJ (l := p0.names) (f := aO) (cs := [.str ((x1).name), .i (((x1).ty).kind), .str (((x1).ty).name), aI (((x1).ty).kids)]) hx1 (rfl) rfl ?_
   refine k11 _ _ ?_
   refine rg 2 ?_
   refine ⟨List.map encS ([x1.name]), rfl, ?_⟩
   obtain ⟨x2, hx2, hs2⟩ := ob hs2
   refine dW (l := s3.1) (ys := [x1.name]) (f := encS) hx2 wU rfl rfl rfl ?_
   refine k10 _ _ ?_
   refine .know 27 0 fun hv1 => ?_
   refine .know 25 0 fun hv2 => ?_
   refine rg 0 ?_
   refine ⟨(s3.2 + 1), by have := dn hv1; have := eP hv2; have h8 := of_decide_eq_true hc1; exact bG (by omega) (by omega), ?_⟩
   exact hKL2 _ _ _ hs2 (wk [some 3] (.u2 (.u (.cons (.bF (aZ _ _) rfl) (.u16 (.u4 (.u (.e aG (.c rfl (.c rfl (.u8 (.u2 .nil))))))))))) (.t rfl .nil) rfl)
  refine .exit ?_
  exact hR2 _ (sj hs2).symm _ _ (li (.u2 (.u (.s (.u16 (.u16 (.u2 .n)))))))
 refine .loopS (qC n p0) (fun (s1 : (List Str) × Int) => (.unk :: (.ptr 0 0 :: (.unk :: (.slice (List.map encS s1.1) (.tip 1 1) :: (u4 (.unk :: (bT p0.carriers :: (.i (p0.carriers.length : Int) :: (.i s1.2 :: (u16 (u8 (u2 []))))))))))))) (fun (s1 : (List Str) × Int) => [.box [bT p0.carriers, bU p0.names], .tip (List.length s1.1 * 1)]) ho1 (fun _ => rfl) (wk [some 0, none] (.u (.c rfl (.u (.cons (.nils _ _) (.u4 (.u (.e aA (.c rfl (.c rfl (.u16 (.u8 (.u2 .nil)))))))))))) (.b rfl (.e aA (.e aG .nil)) (.w rfl .nil)) rfl) ?_
 intro n1 s1 hs1 KL1 hKL1
 unfold qC at hs1
 refine .q fun K12 k12 => rg 0 ?_
 refine k12 _ _ ?_
 refine .q fun K13 k13 => ?_
 refine .aC rfl hs1 (fun hc2 hs1 => ?_) (fun hc2 hs1 => ?_)
 ·refine .skip ?_
  refine k13 _ _ ?_
  refine .q fun K14 k14 => ?_
  refine .block ?_
  refine .q fun K15 k15 => rg 1 ?_
  obtain ⟨x3, hx3, hs1⟩ := ob hs1
  refine aJ (l := p0.carriers) (f := aL) (cs := [.str ((x3).name), bQ ((x3).elems)]) hx3 (rfl) rfl ?_
  refine k15 _ _ ?_
  refine rg 3 ?_
  refine ⟨List.map encS ([x3.name]), rfl, ?_⟩
  obtain ⟨x4, hx4, hs1⟩ := ob hs1
  refine dW (l := s1.1) (ys := [x3.name]) (f := encS) hx4 wU rfl rfl rfl ?_
  obtain ⟨x5, hx5, hs1⟩ := ob hs1
  refine dW (l := x4) (ys := x3.elems) (f := encS) hx5 wU rfl rfl rfl ?_
  refine ⟨rfl, ?_⟩
  refine k14 _ _ ?_
  refine .know 11 0 fun hv3 => ?_
  refine .know 9 0 fun hv4 => ?_
  refine rg 0 ?_
  refine ⟨(s1.2 + 1), by have := dn hv3; have := eP hv4; have h8 := of_decide_eq_true hc2; exact bG (by omega) (by omega), ?_⟩
  exact hKL1 _ _ _ hs1 (wk [some 0, some 5] (.u (.c rfl (.u (.cons (.bF (aZ _ _) rfl) (.u4 (.u (.e aA (.c rfl (.c rfl (.u16 (.u8 (.u2 .nil)))))))))))) (.b rfl (.e aA (.e aG .nil)) (.t rfl .nil)) rfl)
 refine .exit ?_
 exact hR1 _ (sj hs1).symm _ _ (li (.u (.s (.u (.s (.u16 (.u16 (.u2 .n))))))))
end Abs
end Go.Proofs.YtiiaccpcoclklaaGreat
