/-
  Contracts of Go functions (printed). Conditions: none.
-/
import Derived.KernelRfl
import Derived.Test.YtiiaccpcoclklaaGreatCAwox44ec00
import Derived.Test.YtiiaccpcoclklaaGreatCT15oxaa99a8
set_option linter.unusedSimpArgs false
set_option linter.unusedVariables false
namespace Go.Proofs.YtiiaccpcoclklaaGreat
namespace Abs
open Go Go.Proofs
set_option maxRecDepth 100000
set_option maxHeartbeats 40000000
abbrev qe1 (qef : Ty → Option Ty) : Prop := ∀ (p0 r : Ty), qef p0 = some r → aB Tryz.prog 70 [bn p0] [] (bn r) []
theorem LY (n : Nat) (qef : Ty → Option Ty) (qco : qe1 qef) (p0 r : Ty) (h : rH n qef p0 = some r) : aB Tryz.prog 70 [bn p0] [] (bn r) [] := by
 unfold rH at h
 refine ah true Tryz.func70 rfl (nt Tryz.ntmps70 rfl) fun Q hQ t ht => ?_
 conv at ht => whnf
 subst ht
 refine .q fun K1 k1 => rg 2 (k1 _ _ ?_)
 refine .r1 fun K2 k2 => (k2 _ _ ?_)
 refine .q fun K3 k3 => .r fun K4 k4 => (aV (l := p0.kids) (f := aI) ?_)
 refine k4 _ _ (.block ?_)
 obtain ⟨o1, ho1, h⟩ := ob h
 have hR1 : ∀ s2 : List Ty, o1 = .nx s2 → ∀ t9 h9, Le 0 t9 h9 (u2 (.ptr 0 0 :: (.ptr 1 0 :: (u16 (u4 (u2 (.unk :: []))))))) [.box [.i 0, .str ([] : Str), .slice (List.map aI ([] : List Ty)) .nils], .box [.i p0.kind, .str p0.name, .slice (List.map aI s2) (.tip 2 3)], .tip (List.length s2 * 3)] → K3 t9 h9 := by
  intro s2 ho
  subst ho
  dsimp only [LR.el] at h
  intro t9 h9 hw
  refine k3 _ _ (AW.le hw ?_)
  refine .r fun K5 k5 => (k5 _ _ ?_)
  refine .ret ?_
  obtain rfl := sj h
  exact hQ _ _ _ rp
 refine .loopS (uD n qef p0) (fun (s1 : Int × (List Ty)) => (u2 (.ptr 0 0 :: (.ptr 1 0 :: (u8 (aH p0.kids :: (.i (p0.kids.length : Int) :: (.i s1.1 :: (u8 (u4 [])))))))))) (fun (s1 : Int × (List Ty)) => [.box [.i 0, .str ([] : Str), .slice (List.map aI ([] : List Ty)) .nils], .box [.i p0.kind, .str p0.name, .slice (List.map aI s1.2) (.tip 2 3)], .tip (List.length s1.2 * 3)]) ho1 (fun _ => rfl) (wk [some 1, some 2, none] (.u2 (.c2 (.u8 (.e aA (.c2 (.u8 (.u4 .nil))))))) (.b rfl (.c2 (.c rfl .nil)) (.b rfl (.c2 (.cons (.nils _ _) .nil)) (.w rfl .nil))) rfl) ?_
 intro n1 s1 hs1 KL1 hKL1
 unfold uD at hs1
 refine .r fun K6 k6 => (k6 _ _ ?_)
 refine .q fun K7 k7 => (.ak rfl hs1 (fun hc1 hs1 => ?_) (fun hc1 hs1 => ?_))
 ·refine .skip (k7 _ _ ?_)
  refine .q fun K8 k8 => (.block ?_)
  refine .r1 fun K9 k9 => ?_
  obtain ⟨x1, hx1, hs1⟩ := ob hs1
  refine aG (l := p0.kids) (f := aI) (cs := [.i ((x1).kind), .str ((x1).name), aH ((x1).kids)]) hx1 (aR x1) rfl (k9 _ _ ?_)
  refine rg 2 ?_
  obtain ⟨x2, hx2, hs1⟩ := ob hs1
  refine cP (qco _ _ hx2) (⟨List.map aI ([x2]), by simp only [List.map_cons, List.map_nil, aR]; rfl, ?_⟩)
  obtain ⟨x3, hx3, hs1⟩ := ob hs1
  refine eG (l := s1.2) (ys := [x2]) (f := aI) hx3 ahv rfl rfl rfl (⟨rfl, ?_⟩)
  refine k8 _ _ (.know 14 0 fun hv1 => ?_)
  refine .know 12 0 fun hv2 => (rg 0 ?_)
  refine ⟨(s1.1 + 1), by have := dz hv1; have := fG hv2; have h8 := of_decide_eq_true hc1; exact bC (by omega) (by omega), ?_⟩
  exact hKL1 _ _ _ hs1 (wk [some 0, some 1, some 5] (.u2 (.c2 (.u8 (.e aA (.c2 (.u8 (.u4 .nil))))))) (.b rfl (.c2 (.c rfl .nil)) (.b rfl (.c2 (.cons (.bG (aA _ _) rfl) .nil)) (.t rfl .nil))) rfl)
 refine .exit ?_
 exact hR1 _ (sj hs1).symm _ _ (li (.u2 (.s (.s (.u16 (.u4 (.u2 (.u .n))))))))
theorem RI (n : Nat) : qe1 (gX n) := by
 induction n with
 | zero => exact (fun p0 r h => by unfold gX at h; cases h)
 | succ n ih =>
  exact (fun p0 r h => LY n _ ih p0 r (by unfold gX at h; exact h))
theorem uH (n : Nat) : qe1 (gX n) := (RI n)
theorem fA (n : Nat) (p0 : Env) (p1 : Tm) (r : Ty × (List Int) × Int) (h : eT n p0 p1 = some r) : aB Tryz.prog 18 [dR p0, bD p1] [] (.aW [bn r.1, sI r.2.1, .i r.2.2]) [] := by
 unfold eT at h
 refine ah true Tryz.func18 rfl (nt Tryz.ntmps18 rfl) fun Q hQ t ht => ?_
 conv at ht => whnf
 subst ht
 refine .q fun K1 k1 => rg 3 (k1 _ _ ?_)
 refine .q fun K2 k2 => .q fun K3 k3 => ?_
 obtain ⟨s1, hj1, h⟩ := ob h
 have hR1 : ∀ t9 h9, Le 0 t9 h9 (u2 (.ptr 0 0 :: (.ptr 1 0 :: (.ptr 2 0 :: (u8 (u2 (.bool s1 :: (u16 (u4 []))))))))) [.box [bT p0.carriers, bW p0.names], .box [.i p1.op, .str p1.name, .i p1.n, .i p1.ty.kind, .str p1.ty.name, aH p1.ty.kids, aZ p1.kids], .box [.i 0, .str ([] : Str), .slice (List.map aI ([] : List Ty)) .nils]] → K3 t9 h9 := by
  intro t9 h9 hw
  refine k3 _ _ (AW.le hw ?_)
  clear hw
  refine .ak rfl h (fun hc1 h => ?_) (fun hc1 h => ?_)
  ·refine .r fun K4 k4 => (k4 _ _ ?_)
   refine .ret ?_
   obtain rfl := sj h
   exact hQ _ _ _ rp
  refine .skip (k2 _ _ ?_)
  refine .q fun K5 k5 => rg 4 ?_
  obtain ⟨x1, hx1, h⟩ := ob h
  refine bZ [] [3, 4, 5, 6] [dR p0] [dR p0] (PD _ _ _ hx1) aM rfl .nil (by simp; try decide) (.cons (.same _) .nil) (rn := .ptr 3 0) (rfl) (Hn := [.box (.mapr 4 :: (.mapr 5 :: (eU ++ (.psl 6 1 (List.length ([] : List Int)) :: [])))), .mp (iW x1.1), .mp (iB x1.2), .arr 1 (List.map encI ([] : List Int))]) ((bN (by simp only [dx, ren, bS, bK, dM, bO, aQ, aY, bQ, aA, aK, au, aF, aP]; try rfl) (bN (congrArg AObj.mp (eu (f := bn) (fun g x => by simp) _ _)) (bN (congrArg AObj.mp (eu (f := (fun (x : Bool) => .bool x)) (fun g x => rfl) _ _)) (bN (congrArg (AObj.arr _) (aQ _ _)) rfl))))) ?_
  refine k5 _ _ (.r1 fun K6 k6 => ?_)
  obtain ⟨x2, hx2, h⟩ := ob h
  refine bZ [3, 4, 5, 6] [7] [.ptr 0 0, bD p1, .flist (List.map aO ([] : List Decl))] [.ptr 3 0, bD p1, .flist (List.map aO ([] : List Decl))] (PG _ _ _ _ _ _ _ hx2) aM rfl (.cons (by simp only [dx, ren, bS, bK, dM, bO, aQ, aY, bQ, aA, aK, au, aF, aP]; try rfl) (.cons (congrArg AObj.mp (eu (f := bn) (fun g x => by simp) _ _)) (.cons (congrArg AObj.mp (eu (f := (fun (x : Bool) => .bool x)) (fun g x => rfl) _ _)) (.cons (congrArg (AObj.arr _) (aQ _ _)) .nil)))) (by simp; try decide) (.cons (.same _) (.cons (.same _) (.cons .nilF .nil))) (rn := .aW [bn x2.1, .i x2.2.1]) (by simp; try decide) (Hn := [.box (.mapr 4 :: (.mapr 5 :: (eU ++ (.psl 7 1 (List.length x2.2.2) :: [])))), .mp (iW x1.1), .mp (iB x1.2), .dead, .arr 1 (List.map encI x2.2.2)]) ((bN (by simp only [dx, ren, bS, bK, dM, bO, aQ, aY, bQ, aA, aK, au, aF, aP]; try rfl) (bN (congrArg AObj.mp (eu (f := bn) (fun g x => by simp) _ _)) (bN (congrArg AObj.mp (eu (f := (fun (x : Bool) => .bool x)) (fun g x => rfl) _ _)) (bN (rfl) (bN (congrArg (AObj.arr _) (aQ _ _)) rfl)))))) ?_
  refine k6 _ _ (.q fun K7 k7 => .r fun K8 k8 => ?_)
  refine k8 _ _ (.ak rfl h (fun hc2 h => ?_) (fun hc2 h => ?_))
  ·refine .q fun K9 k9 => (.le (t' := (u2 (.ptr 0 0 :: (.ptr 1 0 :: (.ptr 2 0 :: (.unk :: (.i x2.2.1 :: (.ptr 3 0 :: (u4 (u2 (.unk :: (.bool s1 :: (.unk :: (dR p0 :: (.ptr 3 0 :: (.aW [bn x2.1, .i x2.2.1] :: (.ptr 3 0 :: (bD p1 :: (.aW [bn x2.1, .i x2.2.1] :: (bn x2.1 :: (.i x2.2.1 :: (.i x2.2.1 :: (.bool (x2.2.1 != 0) :: (u8 (.unk :: []))))))))))))))))))))))))) (h' := [.box [bT p0.carriers, bW p0.names], .box [.i p1.op, .str p1.name, .i p1.n, .i p1.ty.kind, .str p1.ty.name, aH p1.ty.kids, aZ p1.kids], .box [.i x2.1.kind, .str x2.1.name, aH x2.1.kids], .box (.mapr 4 :: (.mapr 5 :: (eU ++ (sI x2.2.2 :: [])))), .mp (iW x1.1), .mp (iB x1.2), .dead]) (wk [some 0, some 1, some 2, some 3, some 4, some 5, some 6] (.u2 (.c2 (.c rfl (.u (.c2 (.u4 (.u2 (.u (.c rfl (.u (.cons (.agg' (.e au (.e aF .nil))) (.c rfl (.cons (.sW (.cons (.agg' (.c2 (.e aA .nil))) (.c rfl .nil))) (.c rfl (.cons (.agg' (.c4 (.c rfl (.e aA (.e aK .nil))))) (.cons (.sW (.cons (.agg' (.c2 (.e aA .nil))) (.c rfl .nil))) (.cons (.agg' (.c2 (.e aA .nil))) (.c2 (.c rfl (.u8 (.u .nil))))))))))))))))))))) (.b rfl (.e au (.e aF .nil)) (.b rfl (.c4 (.c rfl (.e aA (.e aK .nil)))) (.b rfl (.c2 (.e aA .nil)) (.b rfl (.c2 (.dO aP (.cons (.Gf aQ (aT _) rfl rfl) .nil))) (.old .mT (.old .mB (.old (.dead _) .nil))))))) rfl) ?_)
   refine rg 0 ?_
   obtain ⟨x3, hx3, h⟩ := ob h
   refine cP (RP _ _ _ hx3) (k9 _ _ ?_)
   refine .ret ?_
   obtain rfl := sj h
   exact hQ _ _ _ rp
  refine .skip (k7 _ _ ?_)
  refine .r fun K10 k10 => ?_
  obtain ⟨x4, hx4, h⟩ := ob h
  refine cP (uH _ _ _ hx4) (k10 _ _ ?_)
  refine .ret ?_
  obtain rfl := sj h
  exact hQ _ _ _ rp
 refine rg 0 ?_
 obtain ⟨x5, hx5, hj1⟩ := ob hj1
 refine aj (lH _ _ _ hx5) aM (.cons (.same _) .nil) (fun g => by simp) (fun g => rfl) (aD hj1 (fun hc3 hj1 => ?_) (fun hc3 hj1 => ?_))
 ·cases hj1
  exact hR1 _ _ (li (.u2 (.s (.s (.s (.u8 (.u2 (.s (.u16 (.u4 .n))))))))))
 obtain ⟨x6, hx6, hj1⟩ := ob hj1
 refine aj (Ju _ _ _ hx6) aM (.cons (.same _) .nil) (fun g => by simp) (fun g => rfl) ?_
 cases hj1
 exact hR1 _ _ (li (.u2 (.s (.s (.s (.u8 (.u2 (.s (.u16 (.u4 .n))))))))))
theorem Aa (n : Nat) (p0 : Int) (r : Bool) (h : wD n p0 = some r) : aB Tryz.prog 120 [.int .u8 p0] [] (.bool r) [] := by
 unfold wD at h
 refine ah true Tryz.func120 rfl (nt Tryz.ntmps120 rfl) fun Q hQ t ht => ?_
 conv at ht => whnf
 subst ht
 refine .r fun K1 k1 => (k1 _ _ ?_)
 refine .q fun K2 k2 => ?_
 obtain ⟨s1, hj1, h⟩ := ob h
 have hR1 : ∀ t9 h9, Le 0 t9 h9 (u2 (.bool s1 :: (u8 (u4 (u2 []))))) [] → K2 t9 h9 := by
  intro t9 h9 hw
  refine k2 _ _ (AW.le hw ?_)
  clear hw
  refine .ret ?_
  obtain rfl := sj h
  exact hQ _ _ _ rp
 refine rg 0 (aD hj1 (fun hc1 hj1 => ?_) (fun hc1 hj1 => ?_))
 ·refine aD hj1 (fun hc2 hj1 => ?_) (fun hc2 hj1 => ?_)
  ·cases hj1
   exact hR1 _ _ (li (.u2 (.s (.u8 (.u4 (.u2 .n))))))
  refine aD hj1 (fun hc3 hj1 => ?_) (fun hc3 hj1 => ?_)
  ·cases hj1
   exact hR1 _ _ (li (.u2 (.s (.u8 (.u4 (.u2 .n))))))
  cases hj1
  exact hR1 _ _ (li (.u2 (.s (.u8 (.u4 (.u2 .n))))))
 refine aD hj1 (fun hc4 hj1 => ?_) (fun hc4 hj1 => ?_)
 ·cases hj1
  exact hR1 _ _ (li (.u2 (.s (.u8 (.u4 (.u2 .n))))))
 cases hj1
 exact hR1 _ _ (li (.u2 (.s (.u8 (.u4 (.u2 .n))))))
theorem rA (n : Nat) (p0 : Str) (p1 : List Str) (r : Bool) (h : mZ n p0 p1 = some r) : aB Tryz.prog 50 [.str p0, bX p1] [] (.bool r) [] := by
 unfold mZ at h
 refine ah true Tryz.func50 rfl (nt Tryz.ntmps50 rfl) fun Q hQ t ht => ?_
 conv at ht => whnf
 subst ht
 refine .r fun K1 k1 => (k1 _ _ ?_)
 refine .q fun K2 k2 => .r fun K3 k3 => (k3 _ _ ?_)
 refine .block ?_
 obtain ⟨o1, ho1, h⟩ := ob h
 have hR1 : ∀ s2 : Unit, o1 = .nx s2 → ∀ t9 h9, Le 0 t9 h9 (u16 (u2 [])) [] → K2 t9 h9 := by
  intro s2 ho
  subst ho
  dsimp only [LR.el] at h
  intro t9 h9 hw
  refine k2 _ _ (AW.le hw ?_)
  refine .r fun K4 k4 => (k4 _ _ ?_)
  refine .ret ?_
  obtain rfl := sj h
  exact hQ _ _ _ rp
 refine .loopS (Lp n p0 p1) (fun (s1 : Int) => (.str p0 :: (bX p1 :: (u2 (.unk :: (.i s1 :: (u8 (u4 [])))))))) (fun (s1 : Int) => []) ho1 (fun _ => rfl) (li (.s (.s (.u2 (.u (.s (.u8 (.u4 .n)))))))) ?_
 intro n1 s1 hs1 KL1 hKL1
 unfold Lp at hs1
 refine .q fun K5 k5 => .r fun K6 k6 => (aV (l := p1) (f := encS) ?_)
 refine k6 _ _ (.ak rfl hs1 (fun hc1 hs1 => ?_) (fun hc1 hs1 => ?_))
 ·refine .skip (k5 _ _ ?_)
  refine .q fun K7 k7 => (.block ?_)
  refine .r fun K8 k8 => ?_
  obtain ⟨x1, hx1, hs1⟩ := ob hs1
  refine aG (l := p1) (f := encS) (cs := [.str (x1)]) hx1 (rfl) rfl (k8 _ _ ?_)
  refine .ak rfl hs1 (fun hc2 hs1 => ?_) (fun hc2 hs1 => ?_)
  ·refine .r fun K9 k9 => (k9 _ _ ?_)
   refine .ret ?_
   obtain rfl := sj hs1
   dsimp only [LR.el] at h
   obtain rfl := sj h
   exact hQ _ _ _ rp
  refine .skip (k7 _ _ ?_)
  refine .know 5 0 fun hv1 => (.know 1 0 fun hv2 => ?_)
  refine rg 0 (⟨(s1 + 1), by have := dz hv1; have := fG hv2; have h8 := of_decide_eq_true hc1; exact bC (by omega) (by omega), ?_⟩)
  exact hKL1 _ _ _ hs1 (li (.s (.s (.u2 (.u (.s (.u8 (.u4 .n))))))))
 refine .exit ?_
 exact hR1 _ (sj hs1).symm _ _ (li (.u16 (.u2 .n)))
theorem Rc (n : Nat) (p0 : Str) (r : Bool) (h : DC n p0 = some r) : aB Tryz.prog 121 [.str p0] [] (.bool r) [] := by
 unfold DC at h
 refine ah true Tryz.func121 rfl (nt Tryz.ntmps121 rfl) fun Q hQ t ht => ?_
 conv at ht => whnf
 subst ht
 refine .r fun K1 k1 => (k1 _ _ ?_)
 refine .r1 fun K2 k2 => (⟨List.map encS ([([116, 114, 117, 101] : Str), ([102, 97, 108, 115, 101] : Str), ([110, 111, 116] : Str), ([111, 114] : Str), ([102, 111, 114, 97, 108, 108] : Str), ([101, 120, 105, 115, 116, 115] : Str), ([105, 110] : Str), ([110, 111, 116, 105, 110] : Str), ([115, 117, 98] : Str), ([109, 111, 100] : Str), ([102, 117, 110] : Str), ([99, 97, 114, 100] : Str), ([109, 105, 110] : Str), ([109, 97, 120] : Str), ([100, 111, 109] : Str), ([114, 97, 110] : Str), ([80, 79, 87] : Str), ([105, 110, 116] : Str), ([98, 111, 111, 108] : Str), ([115, 101, 116] : Str), ([112, 97, 105, 114] : Str)]), by kernel_rfl, ?_⟩)
 refine k2 _ _ (.r fun K3 k3 => ?_)
 obtain ⟨x1, hx1, h⟩ := ob h
 refine aj (rA _ _ _ _ hx1) aM (.cons (.same _) (.cons (.share _ _) .nil)) (fun g => by simp) (fun g => rfl) (k3 _ _ ?_)
 refine .ret ?_
 obtain rfl := sj h
 exact hQ _ _ _ rp
theorem BM (n : Nat) (p0 : Int) (r : Bool) (h : yO n p0 = some r) : aB Tryz.prog 122 [.int .u8 p0] [] (.bool r) [] := by
 unfold yO at h
 refine ah true Tryz.func122 rfl (nt Tryz.ntmps122 rfl) fun Q hQ t ht => ?_
 conv at ht => whnf
 subst ht
 refine .r fun K1 k1 => (k1 _ _ ?_)
 refine .q fun K2 k2 => ?_
 obtain ⟨s1, hj1, h⟩ := ob h
 have hR1 : ∀ t9 h9, Le 0 t9 h9 (u2 (.bool s1 :: (u4 (u2 [])))) [] → K2 t9 h9 := by
  intro t9 h9 hw
  refine k2 _ _ (AW.le hw ?_)
  clear hw
  refine .ret ?_
  obtain rfl := sj h
  exact hQ _ _ _ rp
 refine rg 0 (aD hj1 (fun hc1 hj1 => ?_) (fun hc1 hj1 => ?_))
 ·cases hj1
  exact hR1 _ _ (li (.u2 (.s (.u4 (.u2 .n)))))
 cases hj1
 exact hR1 _ _ (li (.u2 (.s (.u4 (.u2 .n)))))
theorem qb (n : Nat) (p0 : Str) (r : Bool) (h : iM n p0 = some r) : aB Tryz.prog 58 [.str p0] [] (.bool r) [] := by
 unfold iM at h
 refine ah true Tryz.func58 rfl (nt Tryz.ntmps58 rfl) fun Q hQ t ht => ?_
 conv at ht => whnf
 subst ht
 refine .r fun K1 k1 => (k1 _ _ ?_)
 refine .q fun K2 k2 => .q fun K3 k3 => ?_
 obtain ⟨s1, hj1, h⟩ := ob h
 have hR1 : ∀ t9 h9, Le 0 t9 h9 (.str p0 :: (u16 (u4 (.bool s1 :: (u16 (u8 [])))))) [] → K3 t9 h9 := by
  intro t9 h9 hw
  refine k3 _ _ (AW.le hw ?_)
  clear hw
  refine .ak rfl h (fun hc1 h => ?_) (fun hc1 h => ?_)
  ·refine .r fun K4 k4 => (k4 _ _ ?_)
   refine .ret ?_
   obtain rfl := sj h
   exact hQ _ _ _ rp
  refine .skip (k2 _ _ ?_)
  refine .q fun K5 k5 => .r fun K6 k6 => (k6 _ _ ?_)
  refine .block ?_
  obtain ⟨o1, ho1, h⟩ := ob h
  have hR2 : ∀ s3 : Unit, o1 = .nx s3 → ∀ t9 h9, Le 0 t9 h9 (u32 (u8 (u4 (u2 [])))) [] → K5 t9 h9 := by
   intro s3 ho
   subst ho
   dsimp only [LR.el] at h
   intro t9 h9 hw
   refine k5 _ _ (AW.le hw ?_)
   refine .r fun K7 k7 => (k7 _ _ ?_)
   refine .ret ?_
   obtain rfl := sj h
   exact hQ _ _ _ rp
  refine .loopS (tQ n p0) (fun (s2 : Int) => (.str p0 :: (u2 (.i s2 :: (u32 (u8 (u2 []))))))) (fun (s2 : Int) => []) ho1 (fun _ => rfl) (li (.s (.u2 (.s (.u16 (.u16 (.u8 (.u2 .n)))))))) ?_
  intro n1 s2 hs1 KL1 hKL1
  unfold tQ at hs1
  refine .q fun K8 k8 => .r fun K9 k9 => (k9 _ _ ?_)
  refine .ak rfl hs1 (fun hc2 hs1 => ?_) (fun hc2 hs1 => ?_)
  ·refine .skip (k8 _ _ ?_)
   refine .q fun K10 k10 => (.block ?_)
   refine .q fun K11 k11 => ?_
   obtain ⟨s4, hj2, hs1⟩ := ob hs1
   have hR3 : ∀ t9 h9, Le 0 t9 h9 (.str p0 :: (u2 (.i s2 :: (u32 (u8 (.unk :: (.bool s4 :: []))))))) [] → K11 t9 h9 := by
    intro t9 h9 hw
    refine k11 _ _ (AW.le hw ?_)
    clear hw
    refine .ak rfl hs1 (fun hc3 hs1 => ?_) (fun hc3 hs1 => ?_)
    ·refine .r fun K12 k12 => (k12 _ _ ?_)
     refine .ret ?_
     obtain rfl := sj hs1
     dsimp only [LR.el] at h
     obtain rfl := sj h
     exact hQ _ _ _ rp
    refine .skip (k10 _ _ ?_)
    refine .know 3 0 fun hv1 => (.know 0 0 fun hv2 => ?_)
    refine rg 0 (⟨(s2 + 1), by have := dz hv1; have := vfs hv2; have h8 := of_decide_eq_true hc2; exact bC (by omega) (by omega), ?_⟩)
    exact hKL1 _ _ _ hs1 (li (.s (.u2 (.s (.u16 (.u16 (.u8 (.u2 .n))))))))
   refine rg 0 ?_
   obtain ⟨x1, hx1, hj2⟩ := ob hj2
   refine je hx1 ?_
   obtain ⟨x2, hx2, hj2⟩ := ob hj2
   refine aj (Aa _ _ _ hx2) aM (.cons (.same _) .nil) (fun g => rfl) (fun g => rfl) (aD hj2 (fun hc4 hj2 => ?_) (fun hc4 hj2 => ?_))
   ·obtain ⟨x3, hx3, hj2⟩ := ob hj2
    refine je hx3 ?_
    obtain ⟨x4, hx4, hj2⟩ := ob hj2
    refine aj (BM _ _ _ hx4) aM (.cons (.same _) .nil) (fun g => rfl) (fun g => rfl) (aD hj2 (fun hc5 hj2 => ?_) (fun hc5 hj2 => ?_))
    ·obtain ⟨x5, hx5, hj2⟩ := ob hj2
     refine je hx5 ?_
     cases hj2
     exact hR3 _ _ (li (.s (.u2 (.s (.u16 (.u16 (.u8 (.u (.s .n)))))))))
    cases hj2
    exact hR3 _ _ (li (.s (.u2 (.s (.u16 (.u16 (.u8 (.u (.s .n)))))))))
   cases hj2
   exact hR3 _ _ (li (.s (.u2 (.s (.u16 (.u16 (.u8 (.u (.s .n)))))))))
  refine .exit ?_
  exact hR2 _ (sj hs1).symm _ _ (li (.u16 (.u16 (.u8 (.u4 (.u2 .n))))))
 refine rg 0 (aD hj1 (fun hc6 hj1 => ?_) (fun hc6 hj1 => ?_))
 ·cases hj1
  exact hR1 _ _ (li (.s (.u16 (.u4 (.s (.u16 (.u8 .n)))))))
 refine aD hj1 (fun hc7 hj1 => ?_) (fun hc7 hj1 => ?_)
 ·cases hj1
  exact hR1 _ _ (li (.s (.u16 (.u4 (.s (.u16 (.u8 .n)))))))
 obtain ⟨x6, hx6, hj1⟩ := ob hj1
 refine je hx6 ?_
 obtain ⟨x7, hx7, hj1⟩ := ob hj1
 refine aj (Aa _ _ _ hx7) aM (.cons (.same _) .nil) (fun g => rfl) (fun g => rfl) (aD hj1 (fun hc8 hj1 => ?_) (fun hc8 hj1 => ?_))
 ·cases hj1
  exact hR1 _ _ (li (.s (.u16 (.u4 (.s (.u16 (.u8 .n)))))))
 obtain ⟨x8, hx8, hj1⟩ := ob hj1
 refine aj (Rc _ _ _ hx8) aM (.cons (.same _) .nil) (fun g => rfl) (fun g => rfl) ?_
 cases hj1
 exact hR1 _ _ (li (.s (.u16 (.u4 (.s (.u16 (.u8 .n)))))))
theorem CZ (n : Nat) (p0 : Str) (r : Bool) (h : nW n p0 = some r) : aB Tryz.prog 190 [.str p0] [] (.bool r) [] := by
 unfold nW at h
 refine ah true Tryz.func190 rfl (nt Tryz.ntmps190 rfl) fun Q hQ t ht => ?_
 conv at ht => whnf
 subst ht
 refine .r fun K1 k1 => (k1 _ _ ?_)
 refine .q fun K2 k2 => ?_
 obtain ⟨s1, hj1, h⟩ := ob h
 have hR1 : ∀ t9 h9, Le 0 t9 h9 (u2 (.bool s1 :: (u16 (u2 (.unk :: []))))) [] → K2 t9 h9 := by
  intro t9 h9 hw
  refine k2 _ _ (AW.le hw ?_)
  clear hw
  refine .ret ?_
  obtain rfl := sj h
  exact hQ _ _ _ rp
 refine .know 0 0 fun hv1 => (rg 0 ?_)
 refine aD hj1 (fun hc1 hj1 => ?_) (fun hc1 hj1 => ?_)
 ·refine ⟨((p0.length : Int) - 1), by have := vfs hv1; exact bC (by omega) (by omega), ?_⟩
  obtain ⟨x1, hx1, hj1⟩ := ob hj1
  refine je hx1 (aD hj1 (fun hc2 hj1 => ?_) (fun hc2 hj1 => ?_))
  ·refine ⟨((p0.length : Int) - 1), by have := vfs hv1; exact bC (by omega) (by omega), ?_⟩
   obtain ⟨x2, hx2, hj1⟩ := ob hj1
   refine Gm hx2 (.none _) (.int _ _ _) ?_
   obtain ⟨x3, hx3, hj1⟩ := ob hj1
   refine aj (qb _ _ _ hx3) aM (.cons (.same _) .nil) (fun g => rfl) (fun g => rfl) ?_
   cases hj1
   exact hR1 _ _ (li (.u2 (.s (.u16 (.u2 (.u .n))))))
  cases hj1
  exact hR1 _ _ (li (.u2 (.s (.u16 (.u2 (.u .n))))))
 cases hj1
 exact hR1 _ _ (li (.u2 (.s (.u16 (.u2 (.u .n))))))
theorem t17x0 {p q : Prop} (f : p → q) (h : p := by exact li (.u (.s (.s (.s (.u16 (.u16 (.u16 (.u8 (.u (.s (.u16 (.u2 (.u .n)))))))))))))) : q := f h
theorem Iq (n : Nat) (p0 : Str) (r : Bool) (h : A9 n p0 = some r) : aB Tryz.prog 116 [.str p0] [] (.bool r) [] := by
 unfold A9 at h
 refine ah true Tryz.func116 rfl (nt Tryz.ntmps116 rfl) fun Q hQ t ht => ?_
 conv at ht => whnf
 subst ht
 refine .r fun K1 k1 => (k1 _ _ ?_)
 refine .q fun K2 k2 => ?_
 obtain ⟨s1, hj1, h⟩ := ob h
 have hR1 : ∀ t9 h9, Le 0 t9 h9 (u2 (.bool s1 :: (u4 (u2 [])))) [] → K2 t9 h9 := by
  intro t9 h9 hw
  refine k2 _ _ (AW.le hw ?_)
  clear hw
  refine .ret ?_
  obtain rfl := sj h
  exact hQ _ _ _ rp
 refine rg 0 ?_
 obtain ⟨x1, hx1, hj1⟩ := ob hj1
 refine aj (qb _ _ _ hx1) aM (.cons (.same _) .nil) (fun g => rfl) (fun g => rfl) (aD hj1 (fun hc1 hj1 => ?_) (fun hc1 hj1 => ?_))
 ·cases hj1
  exact hR1 _ _ (li (.u2 (.s (.u4 (.u2 .n)))))
 obtain ⟨x2, hx2, hj1⟩ := ob hj1
 refine aj (CZ _ _ _ hx2) aM (.cons (.same _) .nil) (fun g => rfl) (fun g => rfl) ?_
 cases hj1
 exact hR1 _ _ (li (.u2 (.s (.u4 (.u2 .n)))))
abbrev qay (qdn : Ty → Int → Int → Option Int) : Prop := ∀ (p0 : Ty) (p1 p2 r : Int), qdn p0 p1 p2 = some r → aB Tryz.prog 94 [bn p0, .i p1, .i p2] [] (.i r) []
theorem YU (n : Nat) (qdn : Ty → Int → Int → Option Int) (qbx : qay qdn) (p0 : Ty) (p1 p2 r : Int) (h : Bq n qdn p0 p1 p2 = some r) : aB Tryz.prog 94 [bn p0, .i p1, .i p2] [] (.i r) [] := by
 unfold Bq at h
 refine ah true Tryz.func94 rfl (nt Tryz.ntmps94 rfl) fun Q hQ t ht => ?_
 conv at ht => whnf
 subst ht
 refine .r1 fun K1 k1 => (k1 _ _ ?_)
 refine .r fun K2 k2 => (⟨(IntKind.wrap .i64 (p2 + 1)), rfl, ?_⟩)
 refine k2 _ _ (.q fun K3 k3 => .q fun K4 k4 => ?_)
 obtain ⟨s1, hj1, h⟩ := ob h
 have hR1 : ∀ t9 h9, Le 0 t9 h9 (.unk :: (.i p1 :: (.i (IntKind.wrap .i64 (p2 + 1)) :: (.ptr 0 0 :: (u16 (u4 (.unk :: (.bool s1 :: (u32 (u16 (u4 (u2 (.unk :: []))))))))))))) [.box [.i p0.kind, .str p0.name, aH p0.kids]] → K4 t9 h9 := by
  intro t9 h9 hw
  refine k4 _ _ (AW.le hw ?_)
  clear hw
  refine .ak rfl h (fun hc1 h => ?_) (fun hc1 h => ?_)
  ·refine .r fun K5 k5 => (k5 _ _ ?_)
   refine .ret ?_
   obtain rfl := sj h
   exact hQ _ _ _ rp
  refine .skip (k3 _ _ ?_)
  refine .r fun K6 k6 => (k6 _ _ ?_)
  refine .q fun K7 k7 => ?_
  obtain ⟨o2, hj2, h⟩ := ob h
  have hR2 : ∀ s2 : Int, o2 = .nx s2 → ∀ t9 h9, Le 0 t9 h9 (.unk :: (.i p1 :: (.i (IntKind.wrap .i64 (p2 + 1)) :: (.ptr 0 0 :: (u2 (.unk :: (.i s2 :: (u64 (u8 (.unk :: [])))))))))) [.box [.i p0.kind, .str p0.name, aH p0.kids]] → K7 t9 h9 := by
   intro s2 ho
   subst ho
   dsimp only [LR.el] at h
   intro t9 h9 hw
   refine k7 _ _ (AW.le hw ?_)
   clear hw
   refine .q fun K8 k8 => .q fun K9 k9 => ?_
   obtain ⟨s3, hj3, h⟩ := ob h
   have hR3 : ∀ t9 h9, Le 0 t9 h9 (.unk :: (.i p1 :: (.i (IntKind.wrap .i64 (p2 + 1)) :: (.ptr 0 0 :: (u32 (u16 (u8 (.unk :: (.bool s3 :: (u16 (u2 (.unk :: [])))))))))))) [.box [.i p0.kind, .str p0.name, aH p0.kids]] → K9 t9 h9 := by
    intro t9 h9 hw
    refine k9 _ _ (AW.le hw ?_)
    clear hw
    refine .ak rfl h (fun hc2 h => ?_) (fun hc2 h => ?_)
    ·refine .r fun K10 k10 => (k10 _ _ ?_)
     refine .ret ?_
     obtain rfl := sj h
     exact hQ _ _ _ rp
    refine .skip (k8 _ _ ?_)
    refine .q fun K11 k11 => .r fun K12 k12 => (k12 _ _ ?_)
    refine .block ?_
    obtain ⟨o1, ho1, h⟩ := ob h
    have hR4 : ∀ s5 : Int, o1 = .nx s5 → ∀ t9 h9, Le 0 t9 h9 (u2 (.i s5 :: (u64 (u8 (u4 (u2 [])))))) [] → K11 t9 h9 := by
     intro s5 ho
     subst ho
     dsimp only [LR.el] at h
     intro t9 h9 hw
     refine k11 _ _ (AW.le hw ?_)
     refine .r fun K13 k13 => (k13 _ _ ?_)
     refine .ret ?_
     obtain rfl := sj h
     exact hQ _ _ _ rp
    refine .loopS (y9 n qdn p0 p1) (fun (s4 : Int × Int) => (.unk :: (.i p1 :: (.i s4.1 :: (.ptr 0 0 :: (u4 (.i s4.2 :: (u64 (u8 []))))))))) (fun (s4 : Int × Int) => [.box [.i p0.kind, .str p0.name, aH p0.kids]]) ho1 (fun _ => rfl) (li (.u (.s (.s (.s (.u4 (.s (.u16 (.u16 (.u16 (.u16 (.u8 .n)))))))))))) ?_
    intro n1 s4 hs1 KL1 hKL1
    unfold y9 at hs1
    refine .q fun K14 k14 => .r fun K15 k15 => (aV (l := p0.kids) (f := aI) ?_)
    refine k15 _ _ (.ak rfl hs1 (fun hc3 hs1 => ?_) (fun hc3 hs1 => ?_))
    ·refine .skip (k14 _ _ ?_)
     refine .q fun K16 k16 => (.block ?_)
     refine .r fun K17 k17 => ?_
     obtain ⟨x1, hx1, hs1⟩ := ob hs1
     refine aG (l := p0.kids) (f := aI) (cs := [.i ((x1).kind), .str ((x1).name), aH ((x1).kids)]) hx1 (aR x1) rfl (⟨(IntKind.wrap .i64 (p1 + 1)), rfl, ?_⟩)
     obtain ⟨x2, hx2, hs1⟩ := ob hs1
     refine aj (qbx _ _ _ _ hx2) aM (.cons (.same _) (.cons (.same _) (.cons (.same _) .nil))) (fun g => by simp) (fun g => rfl) (k17 _ _ ?_)
     refine .r fun K18 k18 => (k18 _ _ ?_)
     refine .ak rfl hs1 (fun hc4 hs1 => ?_) (fun hc4 hs1 => ?_)
     ·refine .r fun K19 k19 => (k19 _ _ ?_)
      refine .ret ?_
      obtain rfl := sj hs1
      dsimp only [LR.el] at h
      obtain rfl := sj h
      exact hQ _ _ _ rp
     refine .skip (k16 _ _ ?_)
     refine .know 8 0 fun hv1 => (.know 64 0 fun hv2 => ?_)
     refine rg 0 (⟨(s4.2 + 1), by have := dz hv1; have := fG hv2; have h8 := of_decide_eq_true hc3; exact bC (by omega) (by omega), ?_⟩)
     exact hKL1 _ _ _ hs1 (li (.u (.s (.s (.s (.u4 (.s (.u16 (.u16 (.u16 (.u16 (.u8 .n))))))))))))
    refine .exit ?_
    exact hR4 _ (sj hs1).symm _ _ (wk [] (.u2 (.c rfl (.u64 (.u8 (.u4 (.u2 .nil)))))) .nil rfl)
   refine rg 0 (aV (l := p0.kids) (f := aI) ?_)
   refine aD hj3 (fun hc5 hj3 => ?_) (fun hc5 hj3 => ?_)
   ·cases hj3
    exact t17x0 (hR3 _ _)
   refine aD hj3 (fun hc6 hj3 => ?_) (fun hc6 hj3 => ?_)
   ·obtain ⟨x3, hx3, hj3⟩ := ob hj3
    refine aj (qb _ _ _ hx3) aM (.cons (.same _) .nil) (fun g => rfl) (fun g => rfl) (aD hj3 (fun hc7 hj3 => ?_) (fun hc7 hj3 => ?_))
    ·cases hj3
     exact t17x0 (hR3 _ _)
    refine aD hj3 (fun hc8 hj3 => ?_) (fun hc8 hj3 => ?_)
    ·cases hj3
     exact t17x0 (hR3 _ _)
    cases hj3
    exact t17x0 (hR3 _ _)
   refine aD hj3 (fun hc9 hj3 => ?_) (fun hc9 hj3 => ?_)
   ·cases hj3
    exact t17x0 (hR3 _ _)
   cases hj3
   exact t17x0 (hR3 _ _)
  refine .r fun K20 k20 => (k20 _ _ ?_)
  refine .block (.q fun K21 k21 => ?_)
  obtain ⟨s6, hj4, hj2⟩ := ob hj2
  have hR5 : ∀ t9 h9, Le 0 t9 h9 (.unk :: (.i p1 :: (.i (IntKind.wrap .i64 (p2 + 1)) :: (.ptr 0 0 :: (u2 (.unk :: (.i 0 :: (u16 (u2 (.unk :: (.i p0.kind :: (.bool s6 :: (u32 (u16 (u4 []))))))))))))))) [.box [.i p0.kind, .str p0.name, aH p0.kids]] → K21 t9 h9 := by
   intro t9 h9 hw
   refine k21 _ _ (AW.le hw ?_)
   clear hw
   refine .ak rfl hj2 (fun hc10 hj2 => ?_) (fun hc10 hj2 => ?_)
   ·refine .skip ?_
    exact hR2 _ (sj hj2).symm _ _ (li (.u (.s (.s (.s (.u2 (.u (.s (.u16 (.u16 (.u16 (.u16 (.u8 (.u .n))))))))))))))
   refine .r fun K22 k22 => (k22 _ _ ?_)
   refine .ak rfl hj2 (fun hc11 hj2 => ?_) (fun hc11 hj2 => ?_)
   ·refine rg 0 ?_
    exact hR2 _ (sj hj2).symm _ _ (li (.u (.s (.s (.s (.u2 (.u (.s (.u16 (.u16 (.u16 (.u16 (.u8 (.u .n))))))))))))))
   refine .r fun K23 k23 => (k23 _ _ ?_)
   refine .ak rfl hj2 (fun hc12 hj2 => ?_) (fun hc12 hj2 => ?_)
   ·refine rg 0 ?_
    exact hR2 _ (sj hj2).symm _ _ (li (.u (.s (.s (.s (.u2 (.u (.s (.u16 (.u16 (.u16 (.u16 (.u8 (.u .n))))))))))))))
   refine .r fun K24 k24 => (k24 _ _ ?_)
   refine .ret ?_
   obtain rfl := sj hj2
   dsimp only [LR.el] at h
   obtain rfl := sj h
   exact hQ _ _ _ rp
  refine .r fun K25 k25 => (k25 _ _ ?_)
  refine .ak rfl hj4 (fun hc13 hj4 => ?_) (fun hc13 hj4 => ?_)
  ·refine .skip ?_
   cases hj4
   exact hR5 _ _ (li (.u (.s (.s (.s (.u2 (.u (.s (.u16 (.u2 (.u (.s (.s (.u16 (.u16 (.u16 (.u4 .n)))))))))))))))))
  refine .r fun K26 k26 => (k26 _ _ ?_)
  refine .ak rfl hj4 (fun hc14 hj4 => ?_) (fun hc14 hj4 => ?_)
  ·refine .skip ?_
   cases hj4
   exact hR5 _ _ (li (.u (.s (.s (.s (.u2 (.u (.s (.u16 (.u2 (.u (.s (.s (.u16 (.u16 (.u16 (.u4 .n)))))))))))))))))
  refine rg 0 ?_
  cases hj4
  exact hR5 _ _ (li (.u (.s (.s (.s (.u2 (.u (.s (.u16 (.u2 (.u (.s (.s (.u16 (.u16 (.u16 (.u4 .n)))))))))))))))))
 refine rg 0 (aD hj1 (fun hc15 hj1 => ?_) (fun hc15 hj1 => ?_))
 ·cases hj1
  exact hR1 _ _ (li (.u (.s (.s (.s (.u16 (.u4 (.u (.s (.u16 (.u16 (.u16 (.u4 (.u2 (.u .n)))))))))))))))
 refine aD hj1 (fun hc16 hj1 => ?_) (fun hc16 hj1 => ?_)
 ·cases hj1
  exact hR1 _ _ (li (.u (.s (.s (.s (.u16 (.u4 (.u (.s (.u16 (.u16 (.u16 (.u4 (.u2 (.u .n)))))))))))))))
 refine aD hj1 (fun hc17 hj1 => ?_) (fun hc17 hj1 => ?_)
 ·cases hj1
  exact hR1 _ _ (li (.u (.s (.s (.s (.u16 (.u4 (.u (.s (.u16 (.u16 (.u16 (.u4 (.u2 (.u .n)))))))))))))))
 cases hj1
 exact hR1 _ _ (li (.u (.s (.s (.s (.u16 (.u4 (.u (.s (.u16 (.u16 (.u16 (.u4 (.u2 (.u .n)))))))))))))))
theorem aiU (n : Nat) : qay (vE n) := by
 induction n with
 | zero => exact (fun p0 p1 p2 r h => by unfold vE at h; cases h)
 | succ n ih =>
  exact (fun p0 p1 p2 r h => YU n _ ih p0 p1 p2 r (by unfold vE at h; exact h))
theorem ajL (n : Nat) : qay (vE n) := (aiU n)
theorem kU (n : Nat) (p0 : Ty) (r : Bool) (h : jk n p0 = some r) : aB Tryz.prog 42 [bn p0] [] (.bool r) [] := by
 unfold jk at h
 refine ah true Tryz.func42 rfl (nt Tryz.ntmps42 rfl) fun Q hQ t ht => ?_
 conv at ht => whnf
 subst ht
 refine .r1 fun K1 k1 => (k1 _ _ ?_)
 refine .r fun K2 k2 => ?_
 obtain ⟨x1, hx1, h⟩ := ob h
 refine aj (ajL _ _ _ _ _ hx1) aM (.cons (.same _) (.cons (.same _) (.cons (.same _) .nil))) (fun g => by simp) (fun g => rfl) (k2 _ _ ?_)
 refine .ret ?_
 obtain rfl := sj h
 exact hQ _ _ _ rp
theorem t19x0 {p q : Prop} (f : p → q) (h : p := by exact li (.u (.s (.u16 (.u16 (.u16 (.u16 (.u4 (.u2 (.s (.u8 (.u4 (.u2 (.u .n)))))))))))))) : q := f h
theorem t19x1 {p q : Prop} (f : p → q) (h : p := by exact li (.u (.s (.u16 (.u8 (.u2 (.u (.s (.u16 (.u16 (.u16 (.u8 (.u2 .n))))))))))))) : q := f h
theorem amm (n : Nat) (p0 r : Int) (h : Pt n p0 = some r) : aB Tryz.prog 235 [.i p0] [] (.i r) [] := by
 unfold Pt at h
 refine ah true Tryz.func235 rfl (nt Tryz.ntmps235 rfl) fun Q hQ t ht => ?_
 conv at ht => whnf
 subst ht
 refine .r fun K1 k1 => (k1 _ _ ?_)
 refine .q fun K2 k2 => (.block ?_)
 refine .q fun K3 k3 => ?_
 obtain ⟨s1, hj1, h⟩ := ob h
 have hR1 : ∀ t9 h9, Le 0 t9 h9 (.i p0 :: (u2 (.bool s1 :: (u32 (u8 (u2 (.unk :: []))))))) [] → K3 t9 h9 := by
  intro t9 h9 hw
  refine k3 _ _ (AW.le hw ?_)
  clear hw
  refine .ak rfl h (fun hc1 h => ?_) (fun hc1 h => ?_)
  ·refine .r fun K4 k4 => (k4 _ _ ?_)
   refine .ret ?_
   obtain rfl := sj h
   exact hQ _ _ _ rp
  refine .q fun K5 k5 => ?_
  obtain ⟨s2, hj2, h⟩ := ob h
  have hR2 : ∀ t9 h9, Le 0 t9 h9 (.i p0 :: (u16 (u4 (.unk :: (.bool s2 :: (u16 (u8 []))))))) [] → K5 t9 h9 := by
   intro t9 h9 hw
   refine k5 _ _ (AW.le hw ?_)
   clear hw
   refine .ak rfl h (fun hc2 h => ?_) (fun hc2 h => ?_)
   ·refine .r fun K6 k6 => (k6 _ _ ?_)
    refine .ret ?_
    obtain rfl := sj h
    exact hQ _ _ _ rp
   refine .r fun K7 k7 => (k7 _ _ ?_)
   refine .ak rfl h (fun hc3 h => ?_) (fun hc3 h => ?_)
   ·refine .r fun K8 k8 => (k8 _ _ ?_)
    refine .ret ?_
    obtain rfl := sj h
    exact hQ _ _ _ rp
   refine .q fun K9 k9 => ?_
   obtain ⟨s3, hj3, h⟩ := ob h
   have hR3 : ∀ t9 h9, Le 0 t9 h9 (u32 (u8 (.bool s3 :: (u4 (u2 []))))) [] → K9 t9 h9 := by
    intro t9 h9 hw
    refine k9 _ _ (AW.le hw ?_)
    clear hw
    refine .ak rfl h (fun hc4 h => ?_) (fun hc4 h => ?_)
    ·refine .r fun K10 k10 => (k10 _ _ ?_)
     refine .ret ?_
     obtain rfl := sj h
     exact hQ _ _ _ rp
    refine .skip (k2 _ _ ?_)
    refine .r fun K11 k11 => (k11 _ _ ?_)
    refine .ret ?_
    obtain rfl := sj h
    exact hQ _ _ _ rp
   refine rg 0 (aD hj3 (fun hc5 hj3 => ?_) (fun hc5 hj3 => ?_))
   ·cases hj3
    exact hR3 _ _ (li (.u16 (.u16 (.u8 (.s (.u4 (.u2 .n)))))))
   cases hj3
   exact hR3 _ _ (li (.u16 (.u16 (.u8 (.s (.u4 (.u2 .n)))))))
  refine rg 0 (aD hj2 (fun hc6 hj2 => ?_) (fun hc6 hj2 => ?_))
  ·cases hj2
   exact hR2 _ _ (li (.s (.u16 (.u4 (.u (.s (.u16 (.u8 .n))))))))
  refine aD hj2 (fun hc7 hj2 => ?_) (fun hc7 hj2 => ?_)
  ·cases hj2
   exact hR2 _ _ (li (.s (.u16 (.u4 (.u (.s (.u16 (.u8 .n))))))))
  refine aD hj2 (fun hc8 hj2 => ?_) (fun hc8 hj2 => ?_)
  ·cases hj2
   exact hR2 _ _ (li (.s (.u16 (.u4 (.u (.s (.u16 (.u8 .n))))))))
  cases hj2
  exact hR2 _ _ (li (.s (.u16 (.u4 (.u (.s (.u16 (.u8 .n))))))))
 refine rg 0 (aD hj1 (fun hc9 hj1 => ?_) (fun hc9 hj1 => ?_))
 ·cases hj1
  exact hR1 _ _ (li (.s (.u2 (.s (.u16 (.u16 (.u8 (.u2 (.u .n)))))))))
 refine aD hj1 (fun hc10 hj1 => ?_) (fun hc10 hj1 => ?_)
 ·cases hj1
  exact hR1 _ _ (li (.s (.u2 (.s (.u16 (.u16 (.u8 (.u2 (.u .n)))))))))
 refine aD hj1 (fun hc11 hj1 => ?_) (fun hc11 hj1 => ?_)
 ·cases hj1
  exact hR1 _ _ (li (.s (.u2 (.s (.u16 (.u16 (.u8 (.u2 (.u .n)))))))))
 refine aD hj1 (fun hc12 hj1 => ?_) (fun hc12 hj1 => ?_)
 ·cases hj1
  exact hR1 _ _ (li (.s (.u2 (.s (.u16 (.u16 (.u8 (.u2 (.u .n)))))))))
 cases hj1
 exact hR1 _ _ (li (.s (.u2 (.s (.u16 (.u16 (.u8 (.u2 (.u .n)))))))))
theorem uS (n : Nat) (p0 : Int) (r : Bool) (h : kG n p0 = some r) : aB Tryz.prog 79 [.i p0] [] (.bool r) [] := by
 unfold kG at h
 refine ah true Tryz.func79 rfl (nt Tryz.ntmps79 rfl) fun Q hQ t ht => ?_
 conv at ht => whnf
 subst ht
 refine .r fun K1 k1 => (k1 _ _ ?_)
 refine .q fun K2 k2 => ?_
 obtain ⟨s1, hj1, h⟩ := ob h
 have hR1 : ∀ t9 h9, Le 0 t9 h9 (u2 (.bool s1 :: (u8 (u4 (u2 []))))) [] → K2 t9 h9 := by
  intro t9 h9 hw
  refine k2 _ _ (AW.le hw ?_)
  clear hw
  refine .ret ?_
  obtain rfl := sj h
  exact hQ _ _ _ rp
 refine rg 0 (aD hj1 (fun hc1 hj1 => ?_) (fun hc1 hj1 => ?_))
 ·cases hj1
  exact hR1 _ _ (li (.u2 (.s (.u8 (.u4 (.u2 .n))))))
 refine aD hj1 (fun hc2 hj1 => ?_) (fun hc2 hj1 => ?_)
 ·cases hj1
  exact hR1 _ _ (li (.u2 (.s (.u8 (.u4 (.u2 .n))))))
 refine aD hj1 (fun hc3 hj1 => ?_) (fun hc3 hj1 => ?_)
 ·cases hj1
  exact hR1 _ _ (li (.u2 (.s (.u8 (.u4 (.u2 .n))))))
 cases hj1
 exact hR1 _ _ (li (.u2 (.s (.u8 (.u4 (.u2 .n))))))
theorem ae9 (n : Nat) (p0 : Ty) (r : Bool) (h : Eh n p0 = some r) : aB Tryz.prog 236 [bn p0] [] (.bool r) [] := by
 unfold Eh at h
 refine ah true Tryz.func236 rfl (nt Tryz.ntmps236 rfl) fun Q hQ t ht => ?_
 conv at ht => whnf
 subst ht
 refine .r1 fun K1 k1 => (k1 _ _ ?_)
 refine .q fun K2 k2 => ?_
 obtain ⟨s1, hj1, h⟩ := ob h
 have hR1 : ∀ t9 h9, Le 0 t9 h9 (u2 (.bool s1 :: (u8 (u4 (u2 []))))) [] → K2 t9 h9 := by
  intro t9 h9 hw
  refine k2 _ _ (AW.le hw ?_)
  clear hw
  refine .ret ?_
  obtain rfl := sj h
  exact hQ _ _ _ rp
 refine rg 0 (aD hj1 (fun hc1 hj1 => ?_) (fun hc1 hj1 => ?_))
 ·refine aD hj1 (fun hc2 hj1 => ?_) (fun hc2 hj1 => ?_)
  ·refine aV (l := p0.kids) (f := aI) ?_
   cases hj1
   exact hR1 _ _ (wk [] (.u2 (.c rfl (.u8 (.u4 (.u2 .nil))))) .nil rfl)
  cases hj1
  exact hR1 _ _ (wk [] (.u2 (.c rfl (.u8 (.u4 (.u2 .nil))))) .nil rfl)
 cases hj1
 exact hR1 _ _ (wk [] (.u2 (.c rfl (.u8 (.u4 (.u2 .nil))))) .nil rfl)
theorem amN (n : Nat) (p0 : Tm) (r : Bool) (h : Pm n p0 = some r) : aB Tryz.prog 141 [bD p0] [] (.bool r) [] := by
 unfold Pm at h
 refine ah true Tryz.func141 rfl (nt Tryz.ntmps141 rfl) fun Q hQ t ht => ?_
 conv at ht => whnf
 subst ht
 refine .r1 fun K1 k1 => (k1 _ _ ?_)
 refine .r fun K2 k2 => ?_
 obtain ⟨x1, hx1, h⟩ := ob h
 refine aj (amm _ _ _ hx1) aM (.cons (.same _) .nil) (fun g => rfl) (fun g => rfl) (k2 _ _ ?_)
 refine .q fun K3 k3 => .q fun K4 k4 => ?_
 obtain ⟨s1, hj1, h⟩ := ob h
 have hR1 : ∀ t9 h9, Le 0 t9 h9 (.unk :: (.ptr 0 0 :: (u16 (u8 (u2 (.unk :: (.bool s1 :: (u32 (u16 (u8 (u2 []))))))))))) [.box [.i p0.op, .str p0.name, .i p0.n, .i p0.ty.kind, .str p0.ty.name, aH p0.ty.kids, aZ p0.kids]] → K4 t9 h9 := by
  intro t9 h9 hw
  refine k4 _ _ (AW.le hw ?_)
  clear hw
  refine .ak rfl h (fun hc1 h => ?_) (fun hc1 h => ?_)
  ·refine .r fun K5 k5 => (k5 _ _ ?_)
   refine .ret ?_
   obtain rfl := sj h
   exact hQ _ _ _ rp
  refine .skip (k3 _ _ ?_)
  refine .q fun K6 k6 => ?_
  obtain ⟨o1, hj2, h⟩ := ob h
  have hR2 : ∀ s2 : Unit, o1 = .nx s2 → ∀ t9 h9, Le 0 t9 h9 (.unk :: (.ptr 0 0 :: (u64 (u16 (u4 (u2 [])))))) [.box [.i p0.op, .str p0.name, .i p0.n, .i p0.ty.kind, .str p0.ty.name, aH p0.ty.kids, aZ p0.kids]] → K6 t9 h9 := by
   intro s2 ho
   subst ho
   dsimp only [LR.el] at h
   intro t9 h9 hw
   refine k6 _ _ (AW.le hw ?_)
   clear hw
   refine .q fun K7 k7 => .q fun K8 k8 => ?_
   obtain ⟨s3, hj3, h⟩ := ob h
   have hR3 : ∀ t9 h9, Le 0 t9 h9 (.unk :: (.ptr 0 0 :: (u64 (u4 (u2 (.bool s3 :: (u8 (u4 (u2 (.unk :: [])))))))))) [.box [.i p0.op, .str p0.name, .i p0.n, .i p0.ty.kind, .str p0.ty.name, aH p0.ty.kids, aZ p0.kids]] → K8 t9 h9 := by
    intro t9 h9 hw
    refine k8 _ _ (AW.le hw ?_)
    clear hw
    refine .ak rfl h (fun hc2 h => ?_) (fun hc2 h => ?_)
    ·refine .r fun K9 k9 => (k9 _ _ ?_)
     refine .ret ?_
     obtain rfl := sj h
     exact hQ _ _ _ rp
    refine .skip (k7 _ _ ?_)
    refine .q fun K10 k10 => .r fun K11 k11 => (k11 _ _ ?_)
    refine .ak rfl h (fun hc3 h => ?_) (fun hc3 h => ?_)
    ·refine .q fun K12 k12 => ?_
     obtain ⟨s4, hj4, h⟩ := ob h
     have hR4 : ∀ t9 h9, Le 0 t9 h9 (u2 (.bool s4 :: (u64 (u16 (u4 (.unk :: [])))))) [] → K12 t9 h9 := by
      intro t9 h9 hw
      refine k12 _ _ (AW.le hw ?_)
      clear hw
      refine .ret ?_
      obtain rfl := sj h
      exact hQ _ _ _ rp
     refine rg 0 ?_
     obtain ⟨x2, hx2, hj4⟩ := ob hj4
     refine aj (kU _ _ _ hx2) aM (.cons (.same _) .nil) (fun g => by simp) (fun g => rfl) (aD hj4 (fun hc4 hj4 => ?_) (fun hc4 hj4 => ?_))
     ·cases hj4
      exact hR4 _ _ (wk [] (.u2 (.c rfl (.u64 (.u16 (.u4 (.u .nil)))))) .nil rfl)
     cases hj4
     exact hR4 _ _ (wk [] (.u2 (.c rfl (.u64 (.u16 (.u4 (.u .nil)))))) .nil rfl)
    refine .skip (k10 _ _ ?_)
    refine .r fun K13 k13 => ?_
    obtain ⟨x3, hx3, h⟩ := ob h
    refine aj (ae9 _ _ _ hx3) aM (.cons (.same _) .nil) (fun g => by simp) (fun g => rfl) (k13 _ _ ?_)
    refine .ret ?_
    obtain rfl := sj h
    exact hQ _ _ _ rp
   refine rg 0 (aD hj3 (fun hc5 hj3 => ?_) (fun hc5 hj3 => ?_))
   ·refine aD hj3 (fun hc6 hj3 => ?_) (fun hc6 hj3 => ?_)
    ·cases hj3
     exact t19x0 (hR3 _ _)
    refine aD hj3 (fun hc7 hj3 => ?_) (fun hc7 hj3 => ?_)
    ·cases hj3
     exact t19x0 (hR3 _ _)
    refine aD hj3 (fun hc8 hj3 => ?_) (fun hc8 hj3 => ?_)
    ·cases hj3
     exact t19x0 (hR3 _ _)
    cases hj3
    exact t19x0 (hR3 _ _)
   refine aD hj3 (fun hc9 hj3 => ?_) (fun hc9 hj3 => ?_)
   ·cases hj3
    exact t19x0 (hR3 _ _)
   cases hj3
   exact t19x0 (hR3 _ _)
  refine .block (.r fun K14 k14 => ?_)
  refine k14 _ _ (.ak rfl hj2 (fun hc10 hj2 => ?_) (fun hc10 hj2 => ?_))
  ·refine .r fun K15 k15 => ?_
   obtain ⟨x4, hx4, hj2⟩ := ob hj2
   refine aj (Iq _ _ _ hx4) aM (.cons (.same _) .nil) (fun g => rfl) (fun g => rfl) (k15 _ _ ?_)
   refine .ak rfl hj2 (fun hc11 hj2 => ?_) (fun hc11 hj2 => ?_)
   ·refine .r fun K16 k16 => (k16 _ _ ?_)
    refine .ret ?_
    obtain rfl := sj hj2
    dsimp only [LR.el] at h
    obtain rfl := sj h
    exact hQ _ _ _ rp
   refine .skip ?_
   exact hR2 _ (sj hj2).symm _ _ (li (.u (.s (.u16 (.u16 (.u16 (.u16 (.u16 (.u4 (.u2 .n))))))))))
  refine .r fun K17 k17 => ?_
  obtain ⟨x5, hx5, hj2⟩ := ob hj2
  refine aj (uS _ _ _ hx5) aM (.cons (.same _) .nil) (fun g => rfl) (fun g => rfl) (k17 _ _ ?_)
  refine .ak rfl hj2 (fun hc12 hj2 => ?_) (fun hc12 hj2 => ?_)
  ·refine .r fun K18 k18 => ?_
   obtain ⟨x6, hx6, hj2⟩ := ob hj2
   refine aj (qb _ _ _ hx6) aM (.cons (.same _) .nil) (fun g => rfl) (fun g => rfl) (k18 _ _ ?_)
   refine .ak rfl hj2 (fun hc13 hj2 => ?_) (fun hc13 hj2 => ?_)
   ·refine .r fun K19 k19 => (k19 _ _ ?_)
    refine .ret ?_
    obtain rfl := sj hj2
    dsimp only [LR.el] at h
    obtain rfl := sj h
    exact hQ _ _ _ rp
   refine .skip ?_
   exact hR2 _ (sj hj2).symm _ _ (li (.u (.s (.u16 (.u16 (.u16 (.u16 (.u16 (.u4 (.u2 .n))))))))))
  refine .r fun K20 k20 => (k20 _ _ ?_)
  refine .ak rfl hj2 (fun hc14 hj2 => ?_) (fun hc14 hj2 => ?_)
  ·refine .r fun K21 k21 => (k21 _ _ ?_)
   refine .ret ?_
   obtain rfl := sj hj2
   dsimp only [LR.el] at h
   obtain rfl := sj h
   exact hQ _ _ _ rp
  refine .skip ?_
  exact hR2 _ (sj hj2).symm _ _ (li (.u (.s (.u16 (.u16 (.u16 (.u16 (.u16 (.u4 (.u2 .n))))))))))
 refine rg 0 (aD hj1 (fun hc15 hj1 => ?_) (fun hc15 hj1 => ?_))
 ·cases hj1
  exact t19x1 (hR1 _ _)
 refine aD hj1 (fun hc16 hj1 => ?_) (fun hc16 hj1 => ?_)
 ·refine aV (l := p0.kids) (f := aN) (aD hj1 (fun hc17 hj1 => ?_) (fun hc17 hj1 => ?_))
  ·cases hj1
   exact t19x1 (hR1 _ _)
  refine aD hj1 (fun hc18 hj1 => ?_) (fun hc18 hj1 => ?_)
  ·refine aV (l := p0.kids) (f := aN) ?_
   cases hj1
   exact t19x1 (hR1 _ _)
  cases hj1
  exact t19x1 (hR1 _ _)
 refine aD hj1 (fun hc19 hj1 => ?_) (fun hc19 hj1 => ?_)
 ·refine aV (l := p0.kids) (f := aN) ?_
  cases hj1
  exact t19x1 (hR1 _ _)
 cases hj1
 exact t19x1 (hR1 _ _)
abbrev qal (qda : Tm → Int → Int → Option Int) : Prop := ∀ (p0 : Tm) (p1 p2 r : Int), qda p0 p1 p2 = some r → aB Tryz.prog 73 [bD p0, .i p1, .i p2] [] (.i r) []
theorem Zh (n : Nat) (qda : Tm → Int → Int → Option Int) (qbj : qal qda) (p0 : Tm) (p1 p2 r : Int) (h : Bw n qda p0 p1 p2 = some r) : aB Tryz.prog 73 [bD p0, .i p1, .i p2] [] (.i r) [] := by
 unfold Bw at h
 refine ah true Tryz.func73 rfl (nt Tryz.ntmps73 rfl) fun Q hQ t ht => ?_
 conv at ht => whnf
 subst ht
 refine .r1 fun K1 k1 => (k1 _ _ ?_)
 refine .r fun K2 k2 => (⟨(IntKind.wrap .i64 (p2 + 1)), rfl, ?_⟩)
 refine k2 _ _ (.q fun K3 k3 => .q fun K4 k4 => ?_)
 obtain ⟨s1, hj1, h⟩ := ob h
 have hR1 : ∀ t9 h9, Le 0 t9 h9 (.unk :: (.i p1 :: (.i (IntKind.wrap .i64 (p2 + 1)) :: (.ptr 0 0 :: (u16 (.bool s1 :: (u16 (u2 (.unk :: []))))))))) [.box [.i p0.op, .str p0.name, .i p0.n, .i p0.ty.kind, .str p0.ty.name, aH p0.ty.kids, aZ p0.kids]] → K4 t9 h9 := by
  intro t9 h9 hw
  refine k4 _ _ (AW.le hw ?_)
  clear hw
  refine .ak rfl h (fun hc1 h => ?_) (fun hc1 h => ?_)
  ·refine .r fun K5 k5 => (k5 _ _ ?_)
   refine .ret ?_
   obtain rfl := sj h
   exact hQ _ _ _ rp
  refine .skip (k3 _ _ ?_)
  refine .q fun K6 k6 => .r fun K7 k7 => (k7 _ _ ?_)
  refine .block ?_
  obtain ⟨o1, ho1, h⟩ := ob h
  have hR2 : ∀ s3 : Int, o1 = .nx s3 → ∀ t9 h9, Le 0 t9 h9 (u2 (.i s3 :: (u32 (u4 (.unk :: []))))) [] → K6 t9 h9 := by
   intro s3 ho
   subst ho
   dsimp only [LR.el] at h
   intro t9 h9 hw
   refine k6 _ _ (AW.le hw ?_)
   refine .r fun K8 k8 => (k8 _ _ ?_)
   refine .ret ?_
   obtain rfl := sj h
   exact hQ _ _ _ rp
  refine .loopS (EJ n qda p0 p1) (fun (s2 : Int × Int) => (.unk :: (.i p1 :: (.i s2.1 :: (.ptr 0 0 :: (u2 (.unk :: (.i s2.2 :: (u32 []))))))))) (fun (s2 : Int × Int) => [.box [.i p0.op, .str p0.name, .i p0.n, .i p0.ty.kind, .str p0.ty.name, aH p0.ty.kids, aZ p0.kids]]) ho1 (fun _ => rfl) (li (.u (.s (.s (.s (.u2 (.u (.s (.u16 (.u16 .n)))))))))) ?_
  intro n1 s2 hs1 KL1 hKL1
  unfold EJ at hs1
  refine .q fun K9 k9 => .r fun K10 k10 => (aV (l := p0.kids) (f := aN) ?_)
  refine k10 _ _ (.ak rfl hs1 (fun hc2 hs1 => ?_) (fun hc2 hs1 => ?_))
  ·refine .skip (k9 _ _ ?_)
   refine .q fun K11 k11 => (.block ?_)
   refine .r fun K12 k12 => ?_
   obtain ⟨x1, hx1, hs1⟩ := ob hs1
   refine aG (l := p0.kids) (f := aN) (cs := [.i ((x1).op), .str ((x1).name), .i ((x1).n), .i (((x1).ty).kind), .str (((x1).ty).name), aH (((x1).ty).kids), aZ ((x1).kids)]) hx1 (aS x1) rfl (⟨(IntKind.wrap .i64 (p1 + 1)), rfl, ?_⟩)
   obtain ⟨x2, hx2, hs1⟩ := ob hs1
   refine aj (qbj _ _ _ _ hx2) aM (.cons (.same _) (.cons (.same _) (.cons (.same _) .nil))) (fun g => by simp) (fun g => rfl) (k12 _ _ ?_)
   refine .r fun K13 k13 => (k13 _ _ ?_)
   refine .ak rfl hs1 (fun hc3 hs1 => ?_) (fun hc3 hs1 => ?_)
   ·refine .r fun K14 k14 => (k14 _ _ ?_)
    refine .ret ?_
    obtain rfl := sj hs1
    dsimp only [LR.el] at h
    obtain rfl := sj h
    exact hQ _ _ _ rp
   refine .skip (k11 _ _ ?_)
   refine .know 7 0 fun hv1 => (.know 23 0 fun hv2 => ?_)
   refine rg 0 (⟨(s2.2 + 1), by have := dz hv1; have := fG hv2; have h8 := of_decide_eq_true hc2; exact bC (by omega) (by omega), ?_⟩)
   exact hKL1 _ _ _ hs1 (li (.u (.s (.s (.s (.u2 (.u (.s (.u16 (.u16 .n))))))))))
  refine .exit ?_
  exact hR2 _ (sj hs1).symm _ _ (wk [] (.u2 (.c rfl (.u32 (.u4 (.u .nil))))) .nil rfl)
 refine rg 0 (aD hj1 (fun hc4 hj1 => ?_) (fun hc4 hj1 => ?_))
 ·cases hj1
  exact hR1 _ _ (li (.u (.s (.s (.s (.u16 (.s (.u16 (.u2 (.u .n))))))))))
 refine aD hj1 (fun hc5 hj1 => ?_) (fun hc5 hj1 => ?_)
 ·cases hj1
  exact hR1 _ _ (li (.u (.s (.s (.s (.u16 (.s (.u16 (.u2 (.u .n))))))))))
 obtain ⟨x3, hx3, hj1⟩ := ob hj1
 refine aj (amN _ _ _ hx3) aM (.cons (.same _) .nil) (fun g => by simp) (fun g => rfl) ?_
 cases hj1
 exact hR1 _ _ (li (.u (.s (.s (.s (.u16 (.s (.u16 (.u2 (.u .n))))))))))
theorem ah0 (n : Nat) : qal (xk n) := by
 induction n with
 | zero => exact (fun p0 p1 p2 r h => by unfold xk at h; cases h)
 | succ n ih =>
  exact (fun p0 p1 p2 r h => Zh n _ ih p0 p1 p2 r (by unfold xk at h; exact h))
theorem X3 (n : Nat) : qal (xk n) := (ah0 n)
theorem iK (n : Nat) (p0 : Tm) (r : Bool) (h : iA n p0 = some r) : aB Tryz.prog 21 [bD p0] [] (.bool r) [] := by
 unfold iA at h
 refine ah true Tryz.func21 rfl (nt Tryz.ntmps21 rfl) fun Q hQ t ht => ?_
 conv at ht => whnf
 subst ht
 refine .r1 fun K1 k1 => (k1 _ _ ?_)
 refine .r fun K2 k2 => ?_
 obtain ⟨x1, hx1, h⟩ := ob h
 refine aj (X3 _ _ _ _ _ hx1) aM (.cons (.same _) (.cons (.same _) (.cons (.same _) .nil))) (fun g => by simp) (fun g => rfl) (k2 _ _ ?_)
 refine .ret ?_
 obtain rfl := sj h
 exact hQ _ _ _ rp
end Abs
end Go.Proofs.YtiiaccpcoclklaaGreat
namespace Go.Proofs.YtiiaccpcoclklaaGreat
namespace Abs
open Go Go.Proofs
end Abs
end Go.Proofs.YtiiaccpcoclklaaGreat
namespace Go.Proofs.YtiiaccpcoclklaaGreat
namespace Abs
open Go Go.Proofs
set_option maxRecDepth 100000
set_option maxHeartbeats 40000000
abbrev qag (qcz : Ty → Ty → Option Bool) : Prop := ∀ (p0 p1 : Ty) (r : Bool), qcz p0 p1 = some r → aB Tryz.prog 20 [bn p0, bn p1] [] (.bool r) []
theorem Ry (n : Nat) (qcz : Ty → Ty → Option Bool) (qbe : qag qcz) (p0 p1 : Ty) (r : Bool) (h : qd n qcz p0 p1 = some r) : aB Tryz.prog 20 [bn p0, bn p1] [] (.bool r) [] := by
 unfold qd at h
 refine ah true Tryz.func20 rfl (nt Tryz.ntmps20 rfl) fun Q hQ t ht => ?_
 conv at ht => whnf
 subst ht
 refine .q fun K1 k1 => rg 2 (k1 _ _ ?_)
 refine .q fun K2 k2 => .q fun K3 k3 => ?_
 obtain ⟨s1, hj1, h⟩ := ob h
 have hR1 : ∀ t9 h9, Le 0 t9 h9 (u2 (.ptr 0 0 :: (.ptr 1 0 :: (u16 (u4 (u2 (.bool s1 :: (u16 (u2 (.unk :: [])))))))))) [.box [.i p0.kind, .str p0.name, aH p0.kids], .box [.i p1.kind, .str p1.name, aH p1.kids]] → K3 t9 h9 := by
  intro t9 h9 hw
  refine k3 _ _ (AW.le hw ?_)
  clear hw
  refine .ak rfl h (fun hc1 h => ?_) (fun hc1 h => ?_)
  ·refine .r fun K4 k4 => (k4 _ _ ?_)
   refine .ret ?_
   obtain rfl := sj h
   exact hQ _ _ _ rp
  refine .skip (k2 _ _ ?_)
  refine .q fun K5 k5 => .r fun K6 k6 => (k6 _ _ ?_)
  refine .block ?_
  obtain ⟨o1, ho1, h⟩ := ob h
  have hR2 : ∀ s3 : Unit, o1 = .nx s3 → ∀ t9 h9, Le 0 t9 h9 (u32 (u8 (u4 (u2 [])))) [] → K5 t9 h9 := by
   intro s3 ho
   subst ho
   dsimp only [LR.el] at h
   intro t9 h9 hw
   refine k5 _ _ (AW.le hw ?_)
   refine .r fun K7 k7 => (k7 _ _ ?_)
   refine .ret ?_
   obtain rfl := sj h
   exact hQ _ _ _ rp
  refine .loopS (wO n qcz p0 p1) (fun (s2 : Int) => (u2 (.ptr 0 0 :: (.ptr 1 0 :: (.unk :: (.i s2 :: (u32 (u8 [])))))))) (fun (s2 : Int) => [.box [.i p0.kind, .str p0.name, aH p0.kids], .box [.i p1.kind, .str p1.name, aH p1.kids]]) ho1 (fun _ => rfl) (li (.u2 (.s (.s (.u (.s (.u16 (.u16 (.u8 .n))))))))) ?_
  intro n1 s2 hs1 KL1 hKL1
  unfold wO at hs1
  refine .q fun K8 k8 => .r fun K9 k9 => (aV (l := p0.kids) (f := aI) ?_)
  refine k9 _ _ (.ak rfl hs1 (fun hc2 hs1 => ?_) (fun hc2 hs1 => ?_))
  ·refine .skip (k8 _ _ ?_)
   refine .q fun K10 k10 => (.block ?_)
   refine .r fun K11 k11 => ?_
   obtain ⟨x1, hx1, hs1⟩ := ob hs1
   refine aG (l := p0.kids) (f := aI) (cs := [.i ((x1).kind), .str ((x1).name), aH ((x1).kids)]) hx1 (aR x1) rfl ?_
   obtain ⟨x2, hx2, hs1⟩ := ob hs1
   refine aG (l := p1.kids) (f := aI) (cs := [.i ((x2).kind), .str ((x2).name), aH ((x2).kids)]) hx2 (aR x2) rfl ?_
   obtain ⟨x3, hx3, hs1⟩ := ob hs1
   refine aj (qbe _ _ _ hx3) aM (.cons (.same _) (.cons (.same _) .nil)) (fun g => by simp) (fun g => rfl) (⟨rfl, ?_⟩)
   refine k11 _ _ (.ak rfl hs1 (fun hc3 hs1 => ?_) (fun hc3 hs1 => ?_))
   ·refine .r fun K12 k12 => (k12 _ _ ?_)
    refine .ret ?_
    obtain rfl := sj hs1
    dsimp only [LR.el] at h
    obtain rfl := sj h
    exact hQ _ _ _ rp
   refine .skip (k10 _ _ ?_)
   refine .know 5 0 fun hv1 => (.know 29 0 fun hv2 => ?_)
   refine rg 0 (⟨(s2 + 1), by have := dz hv1; have := fG hv2; have h8 := of_decide_eq_true hc2; exact bC (by omega) (by omega), ?_⟩)
   exact hKL1 _ _ _ hs1 (li (.u2 (.s (.s (.u (.s (.u16 (.u16 (.u8 .n)))))))))
  refine .exit ?_
  exact hR2 _ (sj hs1).symm _ _ (wk [] (.u32 (.u8 (.u4 (.u2 .nil)))) .nil rfl)
 refine rg 0 (aD hj1 (fun hc4 hj1 => ?_) (fun hc4 hj1 => ?_))
 ·cases hj1
  exact hR1 _ _ (li (.u2 (.s (.s (.u16 (.u4 (.u2 (.s (.u16 (.u2 (.u .n)))))))))))
 refine aD hj1 (fun hc5 hj1 => ?_) (fun hc5 hj1 => ?_)
 ·cases hj1
  exact hR1 _ _ (li (.u2 (.s (.s (.u16 (.u4 (.u2 (.s (.u16 (.u2 (.u .n)))))))))))
 refine aV (l := p0.kids) (f := aI) (aV (l := p1.kids) (f := aI) ?_)
 cases hj1
 exact hR1 _ _ (li (.u2 (.s (.s (.u16 (.u4 (.u2 (.s (.u16 (.u2 (.u .n)))))))))))
theorem acg (n : Nat) : qag (bL n) := by
 induction n with
 | zero => exact (fun p0 p1 r h => by unfold bL at h; cases h)
 | succ n ih =>
  exact (fun p0 p1 r h => Ry n _ ih p0 p1 r (by unfold bL at h; exact h))
theorem cO (n : Nat) : qag (bL n) := (acg n)
end Abs
end Go.Proofs.YtiiaccpcoclklaaGreat
namespace Go.Proofs.YtiiaccpcoclklaaGreat
namespace Abs
open Go Go.Proofs
def dF (x : S_refinementlaw02_Binding) : List AV := [.slice (List.map aL x.env.carriers) .shared, .slice (List.map aO x.env.names) .shared, .int .i64 x.body.op, .str x.body.name, .int .i64 x.body.n, .int .i64 x.body.ty.kind, .str x.body.ty.name, .slice (List.map aI x.body.ty.kids) .shared, .slice (List.map aN x.body.kids) .shared, .int .i64 x.domain.op, .str x.domain.name, .int .i64 x.domain.n, .int .i64 x.domain.ty.kind, .str x.domain.ty.name, .slice (List.map aI x.domain.ty.kids) .shared, .slice (List.map aN x.domain.kids) .shared, .str x.name]
theorem GI (g : Nat → Nat) (l : List S_refinementlaw02_Binding) : bK g (l.map dF) = l.map dF := Dp (fun g x => by simp only [dF, bS, ren, dM, aQ, aY, bQ, aA, aK, au, aF]) g l
attribute [simp] GI
end Abs
end Go.Proofs.YtiiaccpcoclklaaGreat
namespace Go.Proofs.YtiiaccpcoclklaaGreat
namespace Abs
open Go Go.Proofs
set_option maxRecDepth 100000
set_option maxHeartbeats 40000000
end Abs
end Go.Proofs.YtiiaccpcoclklaaGreat
