/-
  Contracts of Go functions (printed). Conditions: none.
-/
import Derived.KernelRfl
import Derived.Test.YtiiaccpcoclklaaGreatCT4xb6007b
set_option linter.unusedSimpArgs false
set_option linter.unusedVariables false
namespace Go.Proofs.YtiiaccpcoclklaaGreat
namespace Abs
open Go Go.Proofs
set_option maxRecDepth 100000
set_option maxHeartbeats 40000000
theorem Gx (n : Nat) (p0 : Str) (p1 : List (Str × Ty)) (p2 : List (Str × Bool)) (p3 : List Int) (r : Bool) (h : mW n p0 p1 p2 p3 = some r) : ak Tryz.prog 231 [.str p0, .ptr 0 0] [.box [.ptr 1 0], .box (.mapr 2 :: (.mapr 3 :: (dD ++ (.psl 4 1 (List.length p3) :: [])))), .mp (fP p1), .mp (eX p2), .arr 1 (List.map encI p3)] (.bool r) [.box [.ptr 1 0], .box (.mapr 2 :: (.mapr 3 :: (dD ++ (.psl 4 1 (List.length p3) :: [])))), .mp (fP p1), .mp (eX p2), .arr 1 (List.map encI p3)] := by
 unfold mW at h
 refine ah true Tryz.func231 rfl (nt Tryz.ntmps231 rfl) fun Q hQ t ht => ?_
 conv at ht => whnf
 subst ht
 refine .q fun K1 k1 => rg 0 ?_
 refine k1 _ _ ?_
 refine .q fun K2 k2 => ?_
 obtain ⟨s1, hj1, h⟩ := ob h
 have hR1 : ∀ t9 h9, Le 5 t9 h9 (u2 (.unk :: (.bool s1 :: (u4 (u2 (.unk :: [])))))) [.box [.ptr 1 0], .box (.mapr 2 :: (.mapr 3 :: (dD ++ (.psl 4 1 (List.length p3) :: [])))), .mp (fP p1), .mp (eX p2), .arr 1 (List.map encI p3)] → K2 t9 h9 := by
  intro t9 h9 hw
  refine k2 _ _ (AW.le hw ?_)
  clear hw
  refine .ret ?_
  have e9 := sj h
  subst e9
  refine hQ _ _ _ (dI (u2 (.unk :: (.bool s1 :: (u4 (u2 (.unk :: [])))))) [.box [.ptr 1 0], .box (.mapr 2 :: (.mapr 3 :: (dD ++ (.psl 4 1 (List.length p3) :: [])))), .mp (fP p1), .mp (eX p2), .arr 1 (List.map encI p3)] (wk [some 0, some 1, some 2, some 3, some 4] (.u2 (.u (.c rfl (.u4 (.u2 (.u .nil)))))) (.b rfl (.c rfl .nil) (.b rfl (.c rfl (.c rfl (.dK aP (.c rfl .nil)))) (.old .mT (.old .mB (.old (.arr' aQ (aT _)) .nil))))) rfl) (bP aD [0, 1, 2, 3, 4] rfl (.cons (rfl) (.cons (by simp only [cO, ren, bW, bK, dJ, bN, aQ, aZ, bS, aB, aN, aA, aG, aP]; try rfl) (.cons (congrArg AObj.mp (dS (f := aV) (fun g x => by simp) _ _)) (.cons (congrArg AObj.mp (dS (f := (fun (x : Bool) => .bool x)) (fun g x => rfl) _ _)) (.cons (congrArg (AObj.arr _) (aQ _ _)) .nil))))) ?_))
  conv => whnf
  first | rfl | (simp; done) | (simp; rfl) | (simp; constructor <;> rfl)
 refine rg 0 ?_
 refine Rf (m := p2) (f := (fun (x : Bool) => .bool x)) hj1 (fun x1 hx1 hj1 => ?_) (fun hx1 hj1 => ?_)
 ·cases hj1
  exact hR1 _ _ (li (.u2 (.u (.s (.u4 (.u2 (.u .n)))))))
 cases hj1
 exact hR1 _ _ (li (.u2 (.u (.s (.u4 (.u2 (.u .n)))))))
theorem Eu (n : Nat) (p0 : List Str) (p1 : List (Str × Ty)) (p2 : List (Str × Bool)) (p3 : List Int) (r : Int) (h : nW n p0 p1 p2 p3 = some r) : ak Tryz.prog 246 [bQ p0, .func 231 [.ptr 0 0]] [.box [.ptr 1 0], .box (.mapr 2 :: (.mapr 3 :: (dD ++ (.psl 4 1 (List.length p3) :: [])))), .mp (fP p1), .mp (eX p2), .arr 1 (List.map encI p3)] (.i r) [.box [.ptr 1 0], .box (.mapr 2 :: (.mapr 3 :: (dD ++ (.psl 4 1 (List.length p3) :: [])))), .mp (fP p1), .mp (eX p2), .arr 1 (List.map encI p3)] := by
 unfold nW at h
 refine ah true Tryz.func246 rfl (nt Tryz.ntmps246 rfl) fun Q hQ t ht => ?_
 conv at ht => whnf
 subst ht
 refine .q fun K1 k1 => rg 0 ?_
 refine k1 _ _ ?_
 refine .q fun K2 k2 => .q fun K3 k3 => rg 0 ?_
 refine aW (l := p0) (f := encS) ?_
 refine k3 _ _ ?_
 refine .block ?_
 obtain ⟨o1, ho1, h⟩ := ob h
 have hR1 : ∀ s2 : Unit, o1 = .nx s2 → ∀ t9 h9, Le 5 t9 h9 (u16 (u2 (.unk :: []))) [.box [.ptr 1 0], .box (.mapr 2 :: (.mapr 3 :: (dD ++ (.psl 4 1 (List.length p3) :: [])))), .mp (fP p1), .mp (eX p2), .arr 1 (List.map encI p3)] → K2 t9 h9 := by
  intro s2 ho
  subst ho
  dsimp only [LR.el] at h
  intro t9 h9 hw
  refine k2 _ _ (AW.le hw ?_)
  refine .q fun K4 k4 => rg 0 ?_
  refine k4 _ _ ?_
  refine .ret ?_
  have e9 := sj h
  subst e9
  refine hQ _ _ _ (dI (u4 (.i (-1) :: (u8 (u4 (u2 []))))) [.box [.ptr 1 0], .box (.mapr 2 :: (.mapr 3 :: (dD ++ (.psl 4 1 (List.length p3) :: [])))), .mp (fP p1), .mp (eX p2), .arr 1 (List.map encI p3)] (wk [some 0, some 1, some 2, some 3, some 4] (.u4 (.c rfl (.u8 (.u4 (.u2 .nil))))) (.b rfl (.c rfl .nil) (.b rfl (.c rfl (.c rfl (.dK aP (.c rfl .nil)))) (.old .mT (.old .mB (.old (.arr' aQ (aT _)) .nil))))) rfl) (bP aD [0, 1, 2, 3, 4] rfl (.cons (rfl) (.cons (by simp only [cO, ren, bW, bK, dJ, bN, aQ, aZ, bS, aB, aN, aA, aG, aP]; try rfl) (.cons (congrArg AObj.mp (dS (f := aV) (fun g x => by simp) _ _)) (.cons (congrArg AObj.mp (dS (f := (fun (x : Bool) => .bool x)) (fun g x => rfl) _ _)) (.cons (congrArg (AObj.arr _) (aQ _ _)) .nil))))) ?_))
  conv => whnf
  first | rfl | (simp; done) | (simp; rfl) | (simp; constructor <;> rfl)
 refine .loopS (jv n p0 p1 p2 p3) (fun (s1 : Int) => (bQ p0 :: (.func 231 [.ptr 0 0] :: (u4 (.unk :: (.i (p0.length : Int) :: (.i s1 :: (u8 (u2 []))))))))) (fun (s1 : Int) => [.box [.ptr 1 0], .box (.mapr 2 :: (.mapr 3 :: (dD ++ (.psl 4 1 (List.length p3) :: [])))), .mp (fP p1), .mp (eX p2), .arr 1 (List.map encI p3)]) ho1 (fun _ => rfl) (li (.s (.s (.u4 (.u (.s (.s (.u8 (.u2 .n))))))))) ?_
 intro n1 s1 hs1 KL1 hKL1
 unfold jv at hs1
 refine .q fun K5 k5 => rg 0 ?_
 refine k5 _ _ ?_
 refine .q fun K6 k6 => ?_
 refine .aC rfl hs1 (fun hc1 hs1 => ?_) (fun hc1 hs1 => ?_)
 ·refine .skip ?_
  refine k6 _ _ ?_
  refine .q fun K7 k7 => ?_
  refine .block ?_
  refine .q fun K8 k8 => rg 0 ?_
  refine k8 _ _ ?_
  refine .q fun K9 k9 => rg 0 ?_
  obtain ⟨x1, hx1, hs1⟩ := ob hs1
  refine aJ (l := p0) (f := encS) (cs := [.str (x1)]) hx1 (rfl) rfl ?_
  obtain ⟨x2, hx2, hs1⟩ := ob hs1
  refine bM [0, 1, 2, 3, 4] [] [.str x1, .ptr 0 0] [.str x1, .ptr 0 0] (Gx _ _ _ _ _ _ hx2) ao0 rfl (.cons (rfl) (.cons (by simp only [cO, ren, bW, bK, dJ, bN, aQ, aZ, bS, aB, aN, aA, aG, aP]; try rfl) (.cons (congrArg AObj.mp (dS (f := aV) (fun g x => by simp) _ _)) (.cons (congrArg AObj.mp (dS (f := (fun (x : Bool) => .bool x)) (fun g x => rfl) _ _)) (.cons (congrArg (AObj.arr _) (aQ _ _)) .nil))))) (rfl) (.cons (.same _) (.cons (.same _) .nil)) (rn := .bool x2) (rfl) (Hn := [.box [.ptr 1 0], .box (.mapr 2 :: (.mapr 3 :: (dD ++ (.psl 4 1 (List.length p3) :: [])))), .mp (fP p1), .mp (eX p2), .arr 1 (List.map encI p3)]) ((bI (rfl) (bI (by simp only [cO, ren, bW, bK, dJ, bN, aQ, aZ, bS, aB, aN, aA, aG, aP]; try rfl) (bI (congrArg AObj.mp (dS (f := aV) (fun g x => by simp) _ _)) (bI (congrArg AObj.mp (dS (f := (fun (x : Bool) => .bool x)) (fun g x => rfl) _ _)) (bI (congrArg (AObj.arr _) (aQ _ _)) rfl)))))) ?_
  refine k9 _ _ ?_
  refine .aC rfl hs1 (fun hc2 hs1 => ?_) (fun hc2 hs1 => ?_)
  ·refine .q fun K10 k10 => rg 0 ?_
   refine k10 _ _ ?_
   refine .ret ?_
   have e9 := sj hs1
   subst e9
   dsimp only [LR.el] at h
   have e9 := sj h
   subst e9
   refine hQ _ _ _ (dI (u4 (.i s1 :: (u8 (u4 (u2 []))))) [.box [.ptr 1 0], .box (.mapr 2 :: (.mapr 3 :: (dD ++ (.psl 4 1 (List.length p3) :: [])))), .mp (fP p1), .mp (eX p2), .arr 1 (List.map encI p3)] (wk [some 0, some 1, some 2, some 3, some 4] (.u4 (.c rfl (.u8 (.u4 (.u2 .nil))))) (.b rfl (.c rfl .nil) (.b rfl (.c rfl (.c rfl (.dK aP (.c rfl .nil)))) (.old .mT (.old .mB (.old (.arr' aQ (aT _)) .nil))))) rfl) (bP aD [0, 1, 2, 3, 4] rfl (.cons (rfl) (.cons (by simp only [cO, ren, bW, bK, dJ, bN, aQ, aZ, bS, aB, aN, aA, aG, aP]; try rfl) (.cons (congrArg AObj.mp (dS (f := aV) (fun g x => by simp) _ _)) (.cons (congrArg AObj.mp (dS (f := (fun (x : Bool) => .bool x)) (fun g x => rfl) _ _)) (.cons (congrArg (AObj.arr _) (aQ _ _)) .nil))))) ?_))
   conv => whnf
   first | rfl | (simp; done) | (simp; rfl) | (simp; constructor <;> rfl)
  refine .skip ?_
  refine k7 _ _ ?_
  refine .know 5 0 fun hv1 => ?_
  refine .know 0 0 fun hv2 => ?_
  refine rg 0 ?_
  refine ⟨(s1 + 1), by have := dn hv1; have := eP hv2; have h8 := of_decide_eq_true hc1; exact bG (by omega) (by omega), ?_⟩
  exact hKL1 _ _ _ hs1 (li (.s (.s (.u4 (.u (.s (.s (.u8 (.u2 .n)))))))))
 refine .exit ?_
 exact hR1 _ (sj hs1).symm _ _ (li (.u16 (.u2 (.u .n))))
theorem Dh (n : Nat) (p0 : List Str) (p1 : List (Str × Ty)) (p2 : List (Str × Bool)) (p3 : List Int) (r : Bool) (h : lX n p0 p1 p2 p3 = some r) : ak Tryz.prog 180 [bQ p0, .func 231 [.ptr 0 0]] [.box [.ptr 1 0], .box (.mapr 2 :: (.mapr 3 :: (dD ++ (.psl 4 1 (List.length p3) :: [])))), .mp (fP p1), .mp (eX p2), .arr 1 (List.map encI p3)] (.bool r) [.box [.ptr 1 0], .box (.mapr 2 :: (.mapr 3 :: (dD ++ (.psl 4 1 (List.length p3) :: [])))), .mp (fP p1), .mp (eX p2), .arr 1 (List.map encI p3)] := by
 unfold lX at h
 refine ah true Tryz.func180 rfl (nt Tryz.ntmps180 rfl) fun Q hQ t ht => ?_
 conv at ht => whnf
 subst ht
 refine .q fun K1 k1 => rg 0 ?_
 refine k1 _ _ ?_
 refine .q fun K2 k2 => rg 0 ?_
 obtain ⟨x1, hx1, h⟩ := ob h
 refine bM [0, 1, 2, 3, 4] [] [bQ p0, .func 231 [.ptr 0 0]] [bQ p0, .func 231 [.ptr 0 0]] (Eu _ _ _ _ _ _ hx1) aiy rfl (.cons (rfl) (.cons (by simp only [cO, ren, bW, bK, dJ, bN, aQ, aZ, bS, aB, aN, aA, aG, aP]; try rfl) (.cons (congrArg AObj.mp (dS (f := aV) (fun g x => by simp) _ _)) (.cons (congrArg AObj.mp (dS (f := (fun (x : Bool) => .bool x)) (fun g x => rfl) _ _)) (.cons (congrArg (AObj.arr _) (aQ _ _)) .nil))))) (by simp; try decide) (.cons (.same _) (.cons (.same _) .nil)) (rn := .i x1) (rfl) (Hn := [.box [.ptr 1 0], .box (.mapr 2 :: (.mapr 3 :: (dD ++ (.psl 4 1 (List.length p3) :: [])))), .mp (fP p1), .mp (eX p2), .arr 1 (List.map encI p3)]) ((bI (rfl) (bI (by simp only [cO, ren, bW, bK, dJ, bN, aQ, aZ, bS, aB, aN, aA, aG, aP]; try rfl) (bI (congrArg AObj.mp (dS (f := aV) (fun g x => by simp) _ _)) (bI (congrArg AObj.mp (dS (f := (fun (x : Bool) => .bool x)) (fun g x => rfl) _ _)) (bI (congrArg (AObj.arr _) (aQ _ _)) rfl)))))) ?_
 refine k2 _ _ ?_
 refine .ret ?_
 have e9 := sj h
 subst e9
 refine hQ _ _ _ (dI (u4 (.bool (decide (0 ≤ x1)) :: (u4 []))) [.box [.ptr 1 0], .box (.mapr 2 :: (.mapr 3 :: (dD ++ (.psl 4 1 (List.length p3) :: [])))), .mp (fP p1), .mp (eX p2), .arr 1 (List.map encI p3)] (wk [some 0, some 1, some 2, some 3, some 4] (.u4 (.c rfl (.u4 .nil))) (.b rfl (.c rfl .nil) (.b rfl (.c rfl (.c rfl (.dK aP (.c rfl .nil)))) (.old .mT (.old .mB (.old (.arr' aQ (aT _)) .nil))))) rfl) (bP aD [0, 1, 2, 3, 4] rfl (.cons (rfl) (.cons (by simp only [cO, ren, bW, bK, dJ, bN, aQ, aZ, bS, aB, aN, aA, aG, aP]; try rfl) (.cons (congrArg AObj.mp (dS (f := aV) (fun g x => by simp) _ _)) (.cons (congrArg AObj.mp (dS (f := (fun (x : Bool) => .bool x)) (fun g x => rfl) _ _)) (.cons (congrArg (AObj.arr _) (aQ _ _)) .nil))))) ?_))
 conv => whnf
 first | rfl | (simp; done) | (simp; rfl) | (simp; constructor <;> rfl)
theorem IZ (n : Nat) (p0 : List (Str × Ty)) (p1 : List (Str × Bool)) (p2 : List Int) (p3 : Ty) (r : Bool) (h : lY n p0 p1 p2 p3 = some r) : ak Tryz.prog 136 [.ptr 0 0, aV p3] [.box (.mapr 1 :: (.mapr 2 :: (dD ++ (.psl 3 1 (List.length p2) :: [])))), .mp (fP p0), .mp (eX p1), .arr 1 (List.map encI p2)] (.bool r) [.box (.mapr 1 :: (.mapr 2 :: (dD ++ (.psl 3 1 (List.length p2) :: [])))), .mp (fP p0), .mp (eX p1), .arr 1 (List.map encI p2)] := by
 unfold lY at h
 refine ah true Tryz.func136 rfl (nt Tryz.ntmps136 rfl) fun Q hQ t ht => ?_
 conv at ht => whnf
 subst ht
 refine .q fun K1 k1 => rg 2 ?_
 refine k1 _ _ ?_
 refine .q fun K2 k2 => rg 0 ?_
 obtain ⟨x1, hx1, h⟩ := ob h
 refine cp (zS _ _ _ hx1) aeJ (.cons (.same _) .nil) ?_
 obtain ⟨x2, hx2, h⟩ := ob h
 refine bM [4, 0, 1, 2, 3] [] [bQ x1, .func 231 [.ptr 0 0]] [bQ x1, .func 231 [.ptr 4 0]] (Dh _ _ _ _ _ _ hx2) ag5 rfl (.cons (rfl) (.cons (by simp only [cO, ren, bW, bK, dJ, bN, aQ, aZ, bS, aB, aN, aA, aG, aP]; try rfl) (.cons (congrArg AObj.mp (dS (f := aV) (fun g x => by simp) _ _)) (.cons (congrArg AObj.mp (dS (f := (fun (x : Bool) => .bool x)) (fun g x => rfl) _ _)) (.cons (congrArg (AObj.arr _) (aQ _ _)) .nil))))) (by simp; try decide) (.cons (.same _) (.cons (.same _) .nil)) (rn := .bool x2) (rfl) (Hn := [.box [.ptr 0 0], .box (.mapr 1 :: (.mapr 2 :: (dD ++ (.psl 3 1 (List.length p2) :: [])))), .mp (fP p0), .mp (eX p1), .arr 1 (List.map encI p2)]) ((bI (rfl) (bI (by simp only [cO, ren, bW, bK, dJ, bN, aQ, aZ, bS, aB, aN, aA, aG, aP]; try rfl) (bI (congrArg AObj.mp (dS (f := aV) (fun g x => by simp) _ _)) (bI (congrArg AObj.mp (dS (f := (fun (x : Bool) => .bool x)) (fun g x => rfl) _ _)) (bI (congrArg (AObj.arr _) (aQ _ _)) rfl)))))) ?_
 refine k2 _ _ ?_
 refine .ret ?_
 have e9 := sj h
 subst e9
 refine hQ _ _ _ (dI (u4 (.bool (!x2) :: (u4 (.unk :: [])))) [.box (.mapr 1 :: (.mapr 2 :: (dD ++ (.psl 3 1 (List.length p2) :: [])))), .mp (fP p0), .mp (eX p1), .arr 1 (List.map encI p2)] (wk [some 0, some 1, some 2, some 3] (.u4 (.c rfl (.u4 (.u .nil)))) (.b rfl (.c rfl (.c rfl (.dK aP (.c rfl .nil)))) (.old .mT (.old .mB (.old (.arr' aQ (aT _)) .nil)))) rfl) (bP aD [0, 1, 2, 3] rfl (.cons (by simp only [cO, ren, bW, bK, dJ, bN, aQ, aZ, bS, aB, aN, aA, aG, aP]; try rfl) (.cons (congrArg AObj.mp (dS (f := aV) (fun g x => by simp) _ _)) (.cons (congrArg AObj.mp (dS (f := (fun (x : Bool) => .bool x)) (fun g x => rfl) _ _)) (.cons (congrArg (AObj.arr _) (aQ _ _)) .nil)))) ?_))
 conv => whnf
 first | rfl | (simp; done) | (simp; rfl) | (simp; constructor <;> rfl)
theorem Ga (n : Nat) (p0 : Ty) (r : Ty × Int) (h : nR n p0 = some r) : ak Tryz.prog 137 [aV p0] [] (.bq [aV r.1, .i r.2]) [] := by
 unfold nR at h
 refine ah true Tryz.func137 rfl (nt Tryz.ntmps137 rfl) fun Q hQ t ht => ?_
 conv at ht => whnf
 subst ht
 refine .q fun K1 k1 => rg 2 ?_
 refine k1 _ _ ?_
 refine .q fun K2 k2 => .q fun K3 k3 => rg 0 ?_
 obtain ⟨x1, hx1, h⟩ := ob h
 refine au (oW _ _ _ hx1) KV (.cons (.same _) .nil) (fun g => by simp) (fun g => rfl) ?_
 refine k3 _ _ ?_
 refine .aC rfl h (fun hc1 h => ?_) (fun hc1 h => ?_)
 ·refine .q fun K4 k4 => rg 0 ?_
  refine k4 _ _ ?_
  refine .ret ?_
  have e9 := sj h
  subst e9
  refine hQ _ _ _ (aj aD (fun g => by simp) ?_)
  conv => whnf
  try rfl
 refine .skip ?_
 refine k2 _ _ ?_
 refine .q fun K5 k5 => rg 0 ?_
 refine k5 _ _ ?_
 refine .ret ?_
 have e9 := sj h
 subst e9
 refine hQ _ _ _ (aj aD (fun g => by simp) ?_)
 conv => whnf
 try rfl
theorem xD (n : Nat) (p0 : List Ty) (p1 : Int) (p2 : Str) (p3 : List Ty) (r : Ty × Bool) (h : F5 n p0 p1 p2 p3 = some r) : ak Tryz.prog 265 [aI p0, .eptr [.i p1, .str p2, aI p3]] [] (.bq [aV r.1, .bool r.2]) [] := by
 unfold F5 at h
 refine ah true Tryz.func265 rfl (nt Tryz.ntmps265 rfl) fun Q hQ t ht => ?_
 conv at ht => whnf
 subst ht
 refine .q fun K1 k1 => rg 1 ?_
 refine k1 _ _ ?_
 refine .q fun K2 k2 => rg 0 ?_
 refine k2 _ _ ?_
 refine .ret ?_
 have e9 := sj h
 subst e9
 refine hQ _ _ _ (aj aD (fun g => by simp) ?_)
 conv => whnf
 try rfl
theorem QC (n : Nat) (p0 : Ty) (p1 : Int) (r : Bool) (h : I7 n p0 p1 = some r) : ak Tryz.prog 260 [aV p0, .eptr [.i p1]] [] (.bool r) [] := by
 unfold I7 at h
 refine ah true Tryz.func260 rfl (nt Tryz.ntmps260 rfl) fun Q hQ t ht => ?_
 conv at ht => whnf
 subst ht
 refine .q fun K1 k1 => rg 1 ?_
 refine k1 _ _ ?_
 refine .q fun K2 k2 => rg 0 ?_
 refine k2 _ _ ?_
 refine .ret ?_
 have e9 := sj h
 subst e9
 refine hQ _ _ _ (aj aD (fun g => rfl) ?_)
 conv => whnf
theorem FQ (n : Nat) (p0 : List Ty) (p1 : Int) (r : Int) (h : pG n p0 p1 = some r) : ak Tryz.prog 245 [aI p0, .func 260 [.eptr [.i p1]]] [] (.i r) [] := by
 unfold pG at h
 refine ah true Tryz.func245 rfl (nt Tryz.ntmps245 rfl) fun Q hQ t ht => ?_
 conv at ht => whnf
 subst ht
 refine .q fun K1 k1 => rg 0 ?_
 refine k1 _ _ ?_
 refine .q fun K2 k2 => .q fun K3 k3 => rg 0 ?_
 refine aW (l := p0) (f := aK) ?_
 refine k3 _ _ ?_
 refine .block ?_
 obtain ⟨o1, ho1, h⟩ := ob h
 have hR1 : ∀ s2 : Unit, o1 = .nx s2 → ∀ t9 h9, Le 0 t9 h9 (u16 (u2 (.unk :: []))) [] → K2 t9 h9 := by
  intro s2 ho
  subst ho
  dsimp only [LR.el] at h
  intro t9 h9 hw
  refine k2 _ _ (AW.le hw ?_)
  refine .q fun K4 k4 => rg 0 ?_
  refine k4 _ _ ?_
  refine .ret ?_
  have e9 := sj h
  subst e9
  refine hQ _ _ _ (aj aD (fun g => rfl) ?_)
  conv => whnf
 refine .loopS (j6 n p0 p1) (fun (s1 : Int) => (aI p0 :: (.func 260 [.eptr [.i p1]] :: (u4 (.unk :: (.i (p0.length : Int) :: (.i s1 :: (u8 (u2 []))))))))) (fun (s1 : Int) => []) ho1 (fun _ => rfl) (li (.s (.s (.u4 (.u (.s (.s (.u8 (.u2 .n))))))))) ?_
 intro n1 s1 hs1 KL1 hKL1
 unfold j6 at hs1
 refine .q fun K5 k5 => rg 0 ?_
 refine k5 _ _ ?_
 refine .q fun K6 k6 => ?_
 refine .aC rfl hs1 (fun hc1 hs1 => ?_) (fun hc1 hs1 => ?_)
 ·refine .skip ?_
  refine k6 _ _ ?_
  refine .q fun K7 k7 => ?_
  refine .block ?_
  refine .q fun K8 k8 => rg 0 ?_
  refine k8 _ _ ?_
  refine .q fun K9 k9 => rg 0 ?_
  obtain ⟨x1, hx1, hs1⟩ := ob hs1
  refine aJ (l := p0) (f := aK) (cs := [.i ((x1).kind), .str ((x1).name), aI ((x1).kids)]) hx1 (aR x1) rfl ?_
  refine au (QC 0 x1 p1 _ rfl) apd (.cons (.same _) (.cons (.same _) .nil)) (fun g => by simp) (fun g => rfl) ?_
  refine k9 _ _ ?_
  refine .aC rfl hs1 (fun hc2 hs1 => ?_) (fun hc2 hs1 => ?_)
  ·refine .q fun K10 k10 => rg 0 ?_
   refine k10 _ _ ?_
   refine .ret ?_
   have e9 := sj hs1
   subst e9
   dsimp only [LR.el] at h
   have e9 := sj h
   subst e9
   refine hQ _ _ _ (aj aD (fun g => rfl) ?_)
   conv => whnf
  refine .skip ?_
  refine k7 _ _ ?_
  refine .know 5 0 fun hv1 => ?_
  refine .know 0 0 fun hv2 => ?_
  refine rg 0 ?_
  refine ⟨(s1 + 1), by have := dn hv1; have := eP hv2; have h8 := of_decide_eq_true hc1; exact bG (by omega) (by omega), ?_⟩
  exact hKL1 _ _ _ hs1 (li (.s (.s (.u4 (.u (.s (.s (.u8 (.u2 .n)))))))))
 refine .exit ?_
 exact hR1 _ (sj hs1).symm _ _ (li (.u16 (.u2 (.u .n))))
theorem D9 (n : Nat) (p0 : List Ty) (p1 : Int) (r : Bool) (h : ng n p0 p1 = some r) : ak Tryz.prog 178 [aI p0, .func 260 [.eptr [.i p1]]] [] (.bool r) [] := by
 unfold ng at h
 refine ah true Tryz.func178 rfl (nt Tryz.ntmps178 rfl) fun Q hQ t ht => ?_
 conv at ht => whnf
 subst ht
 refine .q fun K1 k1 => rg 0 ?_
 refine k1 _ _ ?_
 refine .q fun K2 k2 => rg 0 ?_
 obtain ⟨x1, hx1, h⟩ := ob h
 refine au (FQ _ _ _ _ hx1) Rm (.cons (.same _) (.cons (.same _) .nil)) (fun g => by simp) (fun g => rfl) ?_
 refine k2 _ _ ?_
 refine .ret ?_
 have e9 := sj h
 subst e9
 refine hQ _ _ _ (aj aD (fun g => rfl) ?_)
 conv => whnf
theorem eO (n : Nat) (p0 : List Ty) (p1 : Int) (p2 : Str) (p3 : List Ty) (p4 : Int) (r : Ty × Bool) (h : bV n p0 p1 p2 p3 p4 = some r) : ak Tryz.prog 259 [aI p0, .eptr [.i p1, .str p2, aI p3], .eptr [.i p4]] [] (.bq [aV r.1, .bool r.2]) [] := by
 unfold bV at h
 refine ah true Tryz.func259 rfl (nt Tryz.ntmps259 rfl) fun Q hQ t ht => ?_
 conv at ht => whnf
 subst ht
 refine .q fun K1 k1 => rg 1 ?_
 refine k1 _ _ ?_
 refine .q fun K2 k2 => rg 0 ?_
 obtain ⟨x1, hx1, h⟩ := ob h
 refine au (D9 _ _ _ _ hx1) Rv (.cons (.same _) (.cons (.same _) .nil)) (fun g => by simp) (fun g => rfl) ?_
 refine ⟨rfl, ?_⟩
 refine k2 _ _ ?_
 refine .ret ?_
 have e9 := sj h
 subst e9
 refine hQ _ _ _ (aj aD (fun g => by simp) ?_)
 conv => whnf
 try rfl
end Abs
end Go.Proofs.YtiiaccpcoclklaaGreat
