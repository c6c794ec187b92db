/-
  Contracts of Go functions (printed). Conditions: none.
-/
import Derived.KernelRfl
import Derived.Test.YtiiaccpcoclklaaGreatCT11oxa6a09c
set_option linter.unusedSimpArgs false
set_option linter.unusedVariables false
namespace Go.Proofs.YtiiaccpcoclklaaGreat
namespace Abs
open Go Go.Proofs
set_option maxRecDepth 100000
set_option maxHeartbeats 40000000
theorem t15x0 {p q : Prop} (f : p → q) (h : p := by exact wk [some 0, some 1, some 2, some 3, some 5, some 8, some 7] (.u4 (.u2 (.c rfl (.u8 (.u2 (.u (.c2 (.u64 (.u32 (.u8 .nil)))))))))) (.b rfl (.c2 (.dO aP (.c rfl .nil))) (.old .mT (.old .mB (.old (.dead _) (.b rfl (.c2 (.c rfl .nil)) (.b rfl (.c2 (.e aA .nil)) (.old (.arr' aQ (aT _)) .nil))))))) rfl) : q := f h
theorem t15x1 {p q : Prop} (f : p → q) (h : p := by exact wk [some 0, some 1, some 2, some 3, some 4, some 5, some 11, some 9, some 8] (.c rfl (.u (.cons (.flS (aF _ _)) (.u (.c rfl (.u (.c rfl (.u (.cons (.bG (aA _ _) rfl) (.u (.c rfl (.u8 (.u2 (.u (.c2 (.u16 (.u8 (.c rfl (.u64 (.u8 (.u2 (.u .nil)))))))))))))))))))))) (.b rfl (.c2 (.dO aP (.c rfl .nil))) (.old .mT (.old .mB (.old (.dead _) (.b rfl (.c4 (.c rfl (.e aA (.e aK .nil)))) (.b rfl (.c2 (.c rfl .nil)) (.t rfl (.b rfl (.c2 (.e aA .nil)) (.old (.arr' aQ (aT _)) .nil))))))))) rfl) : q := f h
abbrev qew (qd9 : (List (Str × Ty)) → (List (Str × Bool)) → (List Int) → Tm → (List Decl) → Option (Ty × Int × (List Int))) : Prop := ∀ (p0 : List (Str × Ty)) (p1 : List (Str × Bool)) (p2 : List Int) (p3 : Tm) (p4 : List Decl) (r : Ty × Int × (List Int)), qd9 p0 p1 p2 p3 p4 = some r → aB Tryz.prog 68 [.ptr 0 0, bD p3, .flist (List.map aO p4)] [.box (.mapr 1 :: (.mapr 2 :: (eU ++ (.psl 3 1 (List.length p2) :: [])))), .mp (iW p0), .mp (iB p1), .arr 1 (List.map encI p2)] (.aW [bn r.1, .i r.2.1]) [.box (.mapr 1 :: (.mapr 2 :: (eU ++ (.psl 4 1 (List.length r.2.2) :: [])))), .mp (iW p0), .mp (iB p1), .dead, .arr 1 (List.map encI r.2.2)]
abbrev qev (qd8 : (List (Str × Ty)) → (List (Str × Bool)) → (List Int) → Tm → Int → (List Decl) → Option (Ty × Int × (List Int))) : Prop := ∀ (p0 : List (Str × Ty)) (p1 : List (Str × Bool)) (p2 : List Int) (p3 : Tm) (p4 : Int) (p5 : List Decl) (r : Ty × Int × (List Int)), qd8 p0 p1 p2 p3 p4 p5 = some r → aB Tryz.prog 132 [.ptr 0 0, bD p3, .i p4, .flist (List.map aO p5)] [.box (.mapr 1 :: (.mapr 2 :: (eU ++ (.psl 3 1 (List.length p2) :: [])))), .mp (iW p0), .mp (iB p1), .arr 1 (List.map encI p2)] (.aW [bn r.1, .i r.2.1]) [.box (.mapr 1 :: (.mapr 2 :: (eU ++ (.psl 4 1 (List.length r.2.2) :: [])))), .mp (iW p0), .mp (iB p1), .dead, .arr 1 (List.map encI r.2.2)]
theorem JK (n : Nat) (qd9 : (List (Str × Ty)) → (List (Str × Bool)) → (List Int) → Tm → (List Decl) → Option (Ty × Int × (List Int))) (qd8 : (List (Str × Ty)) → (List (Str × Bool)) → (List Int) → Tm → Int → (List Decl) → Option (Ty × Int × (List Int))) (qcj : qew qd9) (qci : qev qd8) (p0 : List (Str × Ty)) (p1 : List (Str × Bool)) (p2 : List Int) (p3 : Tm) (p4 : List Decl) (r : Ty × Int × (List Int)) (h : pE n qd9 qd8 p0 p1 p2 p3 p4 = some r) : aB Tryz.prog 68 [.ptr 0 0, bD p3, .flist (List.map aO p4)] [.box (.mapr 1 :: (.mapr 2 :: (eU ++ (.psl 3 1 (List.length p2) :: [])))), .mp (iW p0), .mp (iB p1), .arr 1 (List.map encI p2)] (.aW [bn r.1, .i r.2.1]) [.box (.mapr 1 :: (.mapr 2 :: (eU ++ (.psl 4 1 (List.length r.2.2) :: [])))), .mp (iW p0), .mp (iB p1), .dead, .arr 1 (List.map encI r.2.2)] := by
 unfold pE at h
 refine ah true Tryz.func68 rfl (nt Tryz.ntmps68 rfl) fun Q hQ t ht => ?_
 conv at ht => whnf
 subst ht
 refine .q fun K1 k1 => rg 2 (k1 _ _ ?_)
 refine .r fun K2 k2 => (k2 _ _ ?_)
 refine .q fun K3 k3 => .r fun K4 k4 => (aV (l := p3.kids) (f := aN) ?_)
 refine k4 _ _ (.block ?_)
 obtain ⟨o1, ho1, h⟩ := ob h
 have hR1 : ∀ s2 : (List Decl) × (List Ty) × (List Int), o1 = .nx s2 → ∀ t9 h9, Le 4 t9 h9 (.ptr 0 0 :: (.unk :: (.flist (List.map aO s2.1) :: (.unk :: (.ptr 4 0 :: (.unk :: (.ptr 5 0 :: (.unk :: (.slice (List.map aI s2.2.1) (.tip 6 3) :: (u64 (u32 (u16 (u2 (.unk :: [])))))))))))))) [.box (.mapr 1 :: (.mapr 2 :: (eU ++ (.psl 7 1 (List.length s2.2.2) :: [])))), .mp (iW p0), .mp (iB p1), .dead, .box [.i p3.op, .str p3.name, .i p3.n, .i p3.ty.kind, .str p3.ty.name, aH p3.ty.kids, aZ p3.kids], .box [.i 0, .str ([] : Str), .slice (List.map aI ([] : List Ty)) .nils], .tip (List.length s2.2.1 * 3), .arr 1 (List.map encI s2.2.2)] → K3 t9 h9 := by
  intro s2 ho
  subst ho
  dsimp only [LR.el] at h
  intro t9 h9 hw
  refine k3 _ _ (AW.le hw ?_)
  refine .q fun K5 k5 => .r fun K6 k6 => (k6 _ _ ?_)
  refine .block (.r fun K7 k7 => ?_)
  refine k7 _ _ (.ak rfl h (fun hc1 h => ?_) (fun hc1 h => ?_))
  ·refine .q fun K8 k8 => .r1 fun K9 k9 => ?_
   obtain ⟨x1, hx1, h⟩ := ob h
   refine cP (MX _ _ _ _ hx1) (k9 _ _ ?_)
   refine .r fun K10 k10 => (k10 _ _ ?_)
   refine .ak rfl h (fun hc2 h => ?_) (fun hc2 h => ?_)
   ·refine .r fun K11 k11 => (k11 _ _ ?_)
    refine .ret ?_
    obtain rfl := sj h
    refine hQ _ _ _ (gF (u4 (u2 (.ptr 4 0 :: (.i 0 :: (u64 (u32 (u16 (u4 [])))))))) [.box (.mapr 1 :: (.mapr 2 :: (eU ++ (.psl 5 1 (List.length s2.2.2) :: [])))), .mp (iW p0), .mp (iB p1), .dead, .box [.i x1.1.kind, .str x1.1.name, aH x1.1.kids], .arr 1 (List.map encI s2.2.2)] (wk [some 0, some 1, some 2, some 3, some 5, some 7] (.u4 (.u2 (.c2 (.u64 (.u32 (.u16 (.u4 .nil))))))) (.b rfl (.c2 (.dO aP (.c rfl .nil))) (.old .mT (.old .mB (.old (.dead _) (.b rfl (.c2 (.e aA .nil)) (.old (.arr' aQ (aT _)) .nil)))))) rfl) (dA dJ [0, 1, 2, 3, 5] rfl (.cons (by simp only [dx, ren, bS, bK, dM, bO, aQ, aY, bQ, aA, aK, au, aF, aP]; try rfl) (.cons (congrArg AObj.mp (eu (f := bn) (fun g x => by simp) _ _)) (.cons (congrArg AObj.mp (eu (f := (fun (x : Bool) => .bool x)) (fun g x => rfl) _ _)) (.cons (rfl) (.cons (congrArg (AObj.arr _) (aQ _ _)) .nil))))) ?_))
    exact fin
   refine .skip (k8 _ _ ?_)
   refine .q fun K12 k12 => ?_
   obtain ⟨s3, hj1, h⟩ := ob h
   have hR2 : ∀ t9 h9, Le 4 t9 h9 (u4 (u2 (.ptr 4 0 :: (u8 (.unk :: (.ptr 5 0 :: (.bool s3.1 :: (u64 (u32 (u8 (u2 []))))))))))) [.box (.mapr 1 :: (.mapr 2 :: (eU ++ (.psl 6 1 (List.length s2.2.2) :: [])))), .mp (iW p0), .mp (iB p1), .dead, .box [.i 0, .str ([] : Str), .slice (List.map aI ([] : List Ty)) .nils], .box [.i s3.2.1, .str s3.2.2.1, aH s3.2.2.2], .arr 1 (List.map encI s2.2.2)] → K12 t9 h9 := by
    intro t9 h9 hw
    refine k12 _ _ (AW.le hw ?_)
    clear hw
    refine .q fun K13 k13 => .r fun K14 k14 => (k14 _ _ ?_)
    refine .ak rfl h (fun hc3 h => ?_) (fun hc3 h => ?_)
    ·refine .r fun K15 k15 => (k15 _ _ ?_)
     refine .ret ?_
     obtain rfl := sj h
     refine hQ _ _ _ (gF (u4 (u2 (.ptr 4 0 :: (.i 6 :: (u64 (u32 (u16 (u4 [])))))))) [.box (.mapr 1 :: (.mapr 2 :: (eU ++ (.psl 5 1 (List.length s2.2.2) :: [])))), .mp (iW p0), .mp (iB p1), .dead, .box [.i 0, .str ([] : Str), .slice (List.map aI ([] : List Ty)) .nils], .arr 1 (List.map encI s2.2.2)] (wk [some 0, some 1, some 2, some 3, some 4, some 6] (.u4 (.u2 (.c2 (.u64 (.u32 (.u16 (.u4 .nil))))))) (.b rfl (.c2 (.dO aP (.c rfl .nil))) (.old .mT (.old .mB (.old (.dead _) (.b rfl (.c2 (.c rfl .nil)) (.old (.arr' aQ (aT _)) .nil)))))) rfl) (dA dJ [0, 1, 2, 3, 5] rfl (.cons (by simp only [dx, ren, bS, bK, dM, bO, aQ, aY, bQ, aA, aK, au, aF, aP]; try rfl) (.cons (congrArg AObj.mp (eu (f := bn) (fun g x => by simp) _ _)) (.cons (congrArg AObj.mp (eu (f := (fun (x : Bool) => .bool x)) (fun g x => rfl) _ _)) (.cons (rfl) (.cons (congrArg (AObj.arr _) (aQ _ _)) .nil))))) ?_))
     exact fin
    refine .skip (k13 _ _ ?_)
    refine .r fun K16 k16 => (k16 _ _ ?_)
    refine .ret ?_
    obtain rfl := sj h
    refine hQ _ _ _ (gF (u4 (u2 (.ptr 4 0 :: (.i 0 :: (u64 (u32 (u16 (u4 [])))))))) [.box (.mapr 1 :: (.mapr 2 :: (eU ++ (.psl 5 1 (List.length s2.2.2) :: [])))), .mp (iW p0), .mp (iB p1), .dead, .box [.i s3.2.1, .str s3.2.2.1, aH s3.2.2.2], .arr 1 (List.map encI s2.2.2)] (wk [some 0, some 1, some 2, some 3, some 4, some 6] (.u4 (.u2 (.c2 (.u64 (.u32 (.u16 (.u4 .nil))))))) (.b rfl (.c2 (.dO aP (.c rfl .nil))) (.old .mT (.old .mB (.old (.dead _) (.b rfl (.c2 (.e aA .nil)) (.old (.arr' aQ (aT _)) .nil)))))) rfl) (dA dJ [0, 1, 2, 3, 5] rfl (.cons (by simp only [dx, ren, bS, bK, dM, bO, aQ, aY, bQ, aA, aK, au, aF, aP]; try rfl) (.cons (congrArg AObj.mp (eu (f := bn) (fun g x => by simp) _ _)) (.cons (congrArg AObj.mp (eu (f := (fun (x : Bool) => .bool x)) (fun g x => rfl) _ _)) (.cons (rfl) (.cons (congrArg (AObj.arr _) (aQ _ _)) .nil))))) ?_))
    exact fin
   refine rg 1 (Vf (m := p0) (f := bn) hj1 (fun x2 hx2 hj1 => ?_) (fun hx2 hj1 => ?_))
   ·refine ⟨rfl, ?_⟩
    cases hj1
    exact hR2 _ _ (wk [some 0, some 1, some 2, some 3, some 5, some 9, some 7] (.u4 (.u2 (.c rfl (.u8 (.u (.c2 (.u64 (.u32 (.u8 (.u2 .nil)))))))))) (.b rfl (.c2 (.dO aP (.c rfl .nil))) (.old .mT (.old .mB (.old (.dead _) (.b rfl (.c2 (.c rfl .nil)) (.b rfl (.c2 (.e aA .nil)) (.old (.arr' aQ (aT _)) .nil))))))) rfl)
   refine ⟨rfl, ?_⟩
   cases hj1
   exact hR2 _ _ (wk [some 0, some 1, some 2, some 3, some 5, some 9, some 7] (.u4 (.u2 (.c rfl (.u8 (.u (.c2 (.u64 (.u32 (.u8 (.u2 .nil)))))))))) (.b rfl (.c2 (.dO aP (.c rfl .nil))) (.old .mT (.old .mB (.old (.dead _) (.b rfl (.c2 (.c rfl .nil)) (.b rfl (.c2 (.cons (.share rfl) .nil)) (.old (.arr' aQ (aT _)) .nil))))))) rfl)
  refine .r fun K17 k17 => (k17 _ _ ?_)
  refine .ak rfl h (fun hc4 h => ?_) (fun hc4 h => ?_)
  ·refine .q fun K18 k18 => .r fun K19 k19 => ?_
   obtain ⟨x3, hx3, h⟩ := ob h
   refine bZ [0, 1, 2, 7] [] [.ptr 0 0, bn p3.ty] [.ptr 0 0, bn p3.ty] (LW _ _ _ _ _ _ hx3) aM rfl (.cons (by simp only [dx, ren, bS, bK, dM, bO, aQ, aY, bQ, aA, aK, au, aF, aP]; try rfl) (.cons (congrArg AObj.mp (eu (f := bn) (fun g x => by simp) _ _)) (.cons (congrArg AObj.mp (eu (f := (fun (x : Bool) => .bool x)) (fun g x => rfl) _ _)) (.cons (congrArg (AObj.arr _) (aQ _ _)) .nil)))) (by simp; try decide) (.cons (.same _) (.cons (.same _) .nil)) (rn := .bool x3) (rfl) (Hn := [.box (.mapr 1 :: (.mapr 2 :: (eU ++ (.psl 7 1 (List.length s2.2.2) :: [])))), .mp (iW p0), .mp (iB p1), .arr 1 (List.map encI s2.2.2)]) ((bN (by simp only [dx, ren, bS, bK, dM, bO, aQ, aY, bQ, aA, aK, au, aF, aP]; try rfl) (bN (congrArg AObj.mp (eu (f := bn) (fun g x => by simp) _ _)) (bN (congrArg AObj.mp (eu (f := (fun (x : Bool) => .bool x)) (fun g x => rfl) _ _)) (bN (congrArg (AObj.arr _) (aQ _ _)) rfl))))) ?_
   refine k19 _ _ (.ak rfl h (fun hc5 h => ?_) (fun hc5 h => ?_))
   ·refine .r fun K20 k20 => (k20 _ _ ?_)
    refine .ret ?_
    obtain rfl := sj h
    refine hQ _ _ _ (gF (u4 (u2 (.ptr 4 0 :: (.i 6 :: (u64 (u32 (u16 (u4 [])))))))) [.box (.mapr 1 :: (.mapr 2 :: (eU ++ (.psl 5 1 (List.length s2.2.2) :: [])))), .mp (iW p0), .mp (iB p1), .dead, .box [.i 0, .str ([] : Str), .slice (List.map aI ([] : List Ty)) .nils], .arr 1 (List.map encI s2.2.2)] (wk [some 0, some 1, some 2, some 3, some 5, some 7] (.u4 (.u2 (.c2 (.u64 (.u32 (.u16 (.u4 .nil))))))) (.b rfl (.c2 (.dO aP (.c rfl .nil))) (.old .mT (.old .mB (.old (.dead _) (.b rfl (.c2 (.c rfl .nil)) (.old (.arr' aQ (aT _)) .nil)))))) rfl) (dA dJ [0, 1, 2, 3, 5] rfl (.cons (by simp only [dx, ren, bS, bK, dM, bO, aQ, aY, bQ, aA, aK, au, aF, aP]; try rfl) (.cons (congrArg AObj.mp (eu (f := bn) (fun g x => by simp) _ _)) (.cons (congrArg AObj.mp (eu (f := (fun (x : Bool) => .bool x)) (fun g x => rfl) _ _)) (.cons (rfl) (.cons (congrArg (AObj.arr _) (aQ _ _)) .nil))))) ?_))
    exact fin
   refine .skip (k18 _ _ ?_)
   refine .r fun K21 k21 => (cP (jS 0 p3.ty _ rfl) ?_)
   obtain ⟨x4, hx4, h⟩ := ob h
   refine cP (JD _ _ _ hx4) (k21 _ _ ?_)
   refine .ret ?_
   obtain rfl := sj h
   refine hQ _ _ _ (gF (u4 (u2 (.ptr 4 0 :: (.i x4.2 :: (u64 (u32 (u16 (u4 [])))))))) [.box (.mapr 1 :: (.mapr 2 :: (eU ++ (.psl 5 1 (List.length s2.2.2) :: [])))), .mp (iW p0), .mp (iB p1), .dead, .box [.i x4.1.kind, .str x4.1.name, aH x4.1.kids], .arr 1 (List.map encI s2.2.2)] (wk [some 0, some 1, some 2, some 3, some 5, some 7] (.u4 (.u2 (.c2 (.u64 (.u32 (.u16 (.u4 .nil))))))) (.b rfl (.c2 (.dO aP (.c rfl .nil))) (.old .mT (.old .mB (.old (.dead _) (.b rfl (.c2 (.e aA .nil)) (.old (.arr' aQ (aT _)) .nil)))))) rfl) (dA dJ [0, 1, 2, 3, 5] rfl (.cons (by simp only [dx, ren, bS, bK, dM, bO, aQ, aY, bQ, aA, aK, au, aF, aP]; try rfl) (.cons (congrArg AObj.mp (eu (f := bn) (fun g x => by simp) _ _)) (.cons (congrArg AObj.mp (eu (f := (fun (x : Bool) => .bool x)) (fun g x => rfl) _ _)) (.cons (rfl) (.cons (congrArg (AObj.arr _) (aQ _ _)) .nil))))) ?_))
   exact fin
  refine .skip (k5 _ _ ?_)
  refine .q fun K22 k22 => ?_
  obtain ⟨s4, hj2, h⟩ := ob h
  have hR3 : ∀ t9 h9, Le 4 t9 h9 (u4 (u2 (.ptr 4 0 :: (u8 (u2 (.unk :: (.ptr 5 0 :: (.bool s4.1 :: (u64 (u32 (u8 []))))))))))) [.box (.mapr 1 :: (.mapr 2 :: (eU ++ (.psl 6 1 (List.length s2.2.2) :: [])))), .mp (iW p0), .mp (iB p1), .dead, .box [.i 0, .str ([] : Str), .slice (List.map aI ([] : List Ty)) .nils], .box [.i s4.2.1, .str s4.2.2.1, aH s4.2.2.2], .arr 1 (List.map encI s2.2.2)] → K22 t9 h9 := by
   intro t9 h9 hw
   refine k22 _ _ (AW.le hw ?_)
   clear hw
   refine .q fun K23 k23 => .r fun K24 k24 => (k24 _ _ ?_)
   refine .ak rfl h (fun hc6 h => ?_) (fun hc6 h => ?_)
   ·refine .r fun K25 k25 => (k25 _ _ ?_)
    refine .ret ?_
    obtain rfl := sj h
    refine hQ _ _ _ (gF (u4 (u2 (.ptr 4 0 :: (.i 7 :: (u64 (u32 (u16 (u4 [])))))))) [.box (.mapr 1 :: (.mapr 2 :: (eU ++ (.psl 5 1 (List.length s2.2.2) :: [])))), .mp (iW p0), .mp (iB p1), .dead, .box [.i 0, .str ([] : Str), .slice (List.map aI ([] : List Ty)) .nils], .arr 1 (List.map encI s2.2.2)] (wk [some 0, some 1, some 2, some 3, some 4, some 6] (.u4 (.u2 (.c2 (.u64 (.u32 (.u16 (.u4 .nil))))))) (.b rfl (.c2 (.dO aP (.c rfl .nil))) (.old .mT (.old .mB (.old (.dead _) (.b rfl (.c2 (.c rfl .nil)) (.old (.arr' aQ (aT _)) .nil)))))) rfl) (dA dJ [0, 1, 2, 3, 5] rfl (.cons (by simp only [dx, ren, bS, bK, dM, bO, aQ, aY, bQ, aA, aK, au, aF, aP]; try rfl) (.cons (congrArg AObj.mp (eu (f := bn) (fun g x => by simp) _ _)) (.cons (congrArg AObj.mp (eu (f := (fun (x : Bool) => .bool x)) (fun g x => rfl) _ _)) (.cons (rfl) (.cons (congrArg (AObj.arr _) (aQ _ _)) .nil))))) ?_))
    exact fin
   refine .skip (k23 _ _ ?_)
   refine .r fun K26 k26 => ?_
   obtain ⟨x5, hx5, h⟩ := ob h
   refine cP (JD _ _ _ hx5) (k26 _ _ ?_)
   refine .ret ?_
   obtain rfl := sj h
   refine hQ _ _ _ (gF (u4 (u2 (.ptr 4 0 :: (.i x5.2 :: (u64 (u32 (u16 (u4 [])))))))) [.box (.mapr 1 :: (.mapr 2 :: (eU ++ (.psl 5 1 (List.length s2.2.2) :: [])))), .mp (iW p0), .mp (iB p1), .dead, .box [.i x5.1.kind, .str x5.1.name, aH x5.1.kids], .arr 1 (List.map encI s2.2.2)] (wk [some 0, some 1, some 2, some 3, some 4, some 6] (.u4 (.u2 (.c2 (.u64 (.u32 (.u16 (.u4 .nil))))))) (.b rfl (.c2 (.dO aP (.c rfl .nil))) (.old .mT (.old .mB (.old (.dead _) (.b rfl (.c2 (.e aA .nil)) (.old (.arr' aQ (aT _)) .nil)))))) rfl) (dA dJ [0, 1, 2, 3, 5] rfl (.cons (by simp only [dx, ren, bS, bK, dM, bO, aQ, aY, bQ, aA, aK, au, aF, aP]; try rfl) (.cons (congrArg AObj.mp (eu (f := bn) (fun g x => by simp) _ _)) (.cons (congrArg AObj.mp (eu (f := (fun (x : Bool) => .bool x)) (fun g x => rfl) _ _)) (.cons (rfl) (.cons (congrArg (AObj.arr _) (aQ _ _)) .nil))))) ?_))
   exact fin
  refine rg 1 ?_
  rcases dw hj2 with ⟨hc7, hj2⟩ | ⟨hc7, hj2⟩
  ·refine eZ hc7 (by decide) ?_
   exact absurd hj2 (by simp)
  rcases dw hj2 with ⟨hc8, hj2⟩ | ⟨hc8, hj2⟩
  ·refine eZ hc8 (by decide) (cP (Ar 0 s2.2.1 2 ([] : Str) ([]) _ rfl) ?_)
   refine ⟨rfl, ?_⟩
   cases hj2
   exact t15x0 (hR3 _ _)
  rcases dw hj2 with ⟨hc9, hj2⟩ | ⟨hc9, hj2⟩
  ·refine eZ hc9 (by decide) (cP (Ar 0 s2.2.1 2 ([] : Str) ([]) _ rfl) ?_)
   refine ⟨rfl, ?_⟩
   cases hj2
   exact t15x0 (hR3 _ _)
  rcases dw hj2 with ⟨hc10, hj2⟩ | ⟨hc10, hj2⟩
  ·refine eZ hc10 (by decide) ?_
   obtain ⟨x6, hx6, hj2⟩ := ob hj2
   refine cP (fI _ _ _ _ _ _ _ hx6) (⟨rfl, ?_⟩)
   cases hj2
   exact t15x0 (hR3 _ _)
  rcases dw hj2 with ⟨hc11, hj2⟩ | ⟨hc11, hj2⟩
  ·refine eZ hc11 (by decide) ?_
   obtain ⟨x7, hx7, hj2⟩ := ob hj2
   refine cP (fI _ _ _ _ _ _ _ hx7) (⟨rfl, ?_⟩)
   cases hj2
   exact t15x0 (hR3 _ _)
  rcases dw hj2 with ⟨hc12, hj2⟩ | ⟨hc12, hj2⟩
  ·refine eZ hc12 (by decide) ?_
   obtain ⟨x8, hx8, hj2⟩ := ob hj2
   refine cP (fI _ _ _ _ _ _ _ hx8) (⟨rfl, ?_⟩)
   cases hj2
   exact t15x0 (hR3 _ _)
  rcases dw hj2 with ⟨hc13, hj2⟩ | ⟨hc13, hj2⟩
  ·refine eZ hc13 (by decide) ?_
   obtain ⟨x9, hx9, hj2⟩ := ob hj2
   refine cP (fI _ _ _ _ _ _ _ hx9) (⟨rfl, ?_⟩)
   cases hj2
   exact t15x0 (hR3 _ _)
  rcases dw hj2 with ⟨hc14, hj2⟩ | ⟨hc14, hj2⟩
  ·refine eZ hc14 (by decide) ?_
   obtain ⟨x10, hx10, hj2⟩ := ob hj2
   refine cP (fI _ _ _ _ _ _ _ hx10) (⟨rfl, ?_⟩)
   cases hj2
   exact t15x0 (hR3 _ _)
  rcases dw hj2 with ⟨hc15, hj2⟩ | ⟨hc15, hj2⟩
  ·refine eZ hc15 (by decide) ?_
   obtain ⟨x11, hx11, hj2⟩ := ob hj2
   refine cP (Jd _ _ _ hx11) (⟨rfl, ?_⟩)
   cases hj2
   exact t15x0 (hR3 _ _)
  rcases dw hj2 with ⟨hc16, hj2⟩ | ⟨hc16, hj2⟩
  ·refine eZ hc16 (by decide) ?_
   obtain ⟨x12, hx12, hj2⟩ := ob hj2
   refine cP (Jd _ _ _ hx12) (⟨rfl, ?_⟩)
   cases hj2
   exact t15x0 (hR3 _ _)
  rcases dw hj2 with ⟨hc17, hj2⟩ | ⟨hc17, hj2⟩
  ·refine eZ hc17 (by decide) ?_
   obtain ⟨x13, hx13, hj2⟩ := ob hj2
   refine cP (KT _ _ _ hx13) (⟨rfl, ?_⟩)
   cases hj2
   exact t15x0 (hR3 _ _)
  rcases dw hj2 with ⟨hc18, hj2⟩ | ⟨hc18, hj2⟩
  ·refine eZ hc18 (by decide) ?_
   obtain ⟨x14, hx14, hj2⟩ := ob hj2
   refine cP (KT _ _ _ hx14) (⟨rfl, ?_⟩)
   cases hj2
   exact t15x0 (hR3 _ _)
  rcases dw hj2 with ⟨hc19, hj2⟩ | ⟨hc19, hj2⟩
  ·refine eZ hc19 (by decide) ?_
   obtain ⟨x15, hx15, hj2⟩ := ob hj2
   refine cP (fI _ _ _ _ _ _ _ hx15) (⟨rfl, ?_⟩)
   cases hj2
   exact t15x0 (hR3 _ _)
  rcases dw hj2 with ⟨hc20, hj2⟩ | ⟨hc20, hj2⟩
  ·refine eZ hc20 (by decide) ?_
   obtain ⟨x16, hx16, hj2⟩ := ob hj2
   refine cP (fI _ _ _ _ _ _ _ hx16) (⟨rfl, ?_⟩)
   cases hj2
   exact t15x0 (hR3 _ _)
  rcases dw hj2 with ⟨hc21, hj2⟩ | ⟨hc21, hj2⟩
  ·refine eZ hc21 (by decide) ?_
   obtain ⟨x17, hx17, hj2⟩ := ob hj2
   refine cP (fI _ _ _ _ _ _ _ hx17) (⟨rfl, ?_⟩)
   cases hj2
   exact t15x0 (hR3 _ _)
  rcases dw hj2 with ⟨hc22, hj2⟩ | ⟨hc22, hj2⟩
  ·refine eZ hc22 (by decide) ?_
   obtain ⟨x18, hx18, hj2⟩ := ob hj2
   refine cP (fI _ _ _ _ _ _ _ hx18) (⟨rfl, ?_⟩)
   cases hj2
   exact t15x0 (hR3 _ _)
  rcases dw hj2 with ⟨hc23, hj2⟩ | ⟨hc23, hj2⟩
  ·refine eZ hc23 (by decide) ?_
   obtain ⟨x19, hx19, hj2⟩ := ob hj2
   refine cP (KV _ _ _ hx19) (⟨rfl, ?_⟩)
   cases hj2
   exact t15x0 (hR3 _ _)
  rcases dw hj2 with ⟨hc24, hj2⟩ | ⟨hc24, hj2⟩
  ·refine eZ hc24 (by decide) ?_
   obtain ⟨x20, hx20, hj2⟩ := ob hj2
   refine cP (KV _ _ _ hx20) (⟨rfl, ?_⟩)
   cases hj2
   exact t15x0 (hR3 _ _)
  rcases dw hj2 with ⟨hc25, hj2⟩ | ⟨hc25, hj2⟩
  ·refine eZ hc25 (by decide) ?_
   obtain ⟨x21, hx21, hj2⟩ := ob hj2
   refine cP (Uq _ _ _ hx21) (⟨rfl, ?_⟩)
   cases hj2
   exact t15x0 (hR3 _ _)
  rcases dw hj2 with ⟨hc26, hj2⟩ | ⟨hc26, hj2⟩
  ·refine eZ hc26 (by decide) (cP (Ar 0 s2.2.1 1 ([] : Str) ([]) _ rfl) ?_)
   refine ⟨rfl, ?_⟩
   cases hj2
   exact t15x0 (hR3 _ _)
  rcases dw hj2 with ⟨hc27, hj2⟩ | ⟨hc27, hj2⟩
  ·refine eZ hc27 (by decide) ?_
   exact absurd hj2 (by simp)
  rcases dw hj2 with ⟨hc28, hj2⟩ | ⟨hc28, hj2⟩
  ·refine eZ hc28 (by decide) ?_
   obtain ⟨x22, hx22, hj2⟩ := ob hj2
   refine cP (fI _ _ _ _ _ _ _ hx22) (⟨rfl, ?_⟩)
   cases hj2
   exact t15x0 (hR3 _ _)
  rcases dw hj2 with ⟨hc29, hj2⟩ | ⟨hc29, hj2⟩
  ·refine eZ hc29 (by decide) ?_
   obtain ⟨x23, hx23, hj2⟩ := ob hj2
   refine cP (fI _ _ _ _ _ _ _ hx23) (⟨rfl, ?_⟩)
   cases hj2
   exact t15x0 (hR3 _ _)
  rcases dw hj2 with ⟨hc30, hj2⟩ | ⟨hc30, hj2⟩
  ·refine eZ hc30 (by decide) ?_
   obtain ⟨x24, hx24, hj2⟩ := ob hj2
   refine cP (fI _ _ _ _ _ _ _ hx24) (⟨rfl, ?_⟩)
   cases hj2
   exact t15x0 (hR3 _ _)
  rcases dw hj2 with ⟨hc31, hj2⟩ | ⟨hc31, hj2⟩
  ·refine eZ hc31 (by decide) ?_
   obtain ⟨x25, hx25, hj2⟩ := ob hj2
   refine cP (fI _ _ _ _ _ _ _ hx25) (⟨rfl, ?_⟩)
   cases hj2
   exact t15x0 (hR3 _ _)
  rcases dw hj2 with ⟨hc32, hj2⟩ | ⟨hc32, hj2⟩
  ·refine eZ hc32 (by decide) ?_
   obtain ⟨x26, hx26, hj2⟩ := ob hj2
   refine cP (fI _ _ _ _ _ _ _ hx26) (⟨rfl, ?_⟩)
   cases hj2
   exact t15x0 (hR3 _ _)
  rcases dw hj2 with ⟨hc33, hj2⟩ | ⟨hc33, hj2⟩
  ·refine eZ hc33 (by decide) ?_
   obtain ⟨x27, hx27, hj2⟩ := ob hj2
   refine cP (fI _ _ _ _ _ _ _ hx27) (⟨rfl, ?_⟩)
   cases hj2
   exact t15x0 (hR3 _ _)
  rcases dw hj2 with ⟨hc34, hj2⟩ | ⟨hc34, hj2⟩
  ·refine eZ hc34 (by decide) ?_
   obtain ⟨x28, hx28, hj2⟩ := ob hj2
   refine cP (YQ _ _ _ hx28) (⟨rfl, ?_⟩)
   cases hj2
   exact t15x0 (hR3 _ _)
  rcases dw hj2 with ⟨hc35, hj2⟩ | ⟨hc35, hj2⟩
  ·refine eZ hc35 (by decide) ?_
   obtain ⟨x29, hx29, hj2⟩ := ob hj2
   refine cP (Z4 _ _ _ hx29) (⟨rfl, ?_⟩)
   cases hj2
   exact t15x0 (hR3 _ _)
  rcases dw hj2 with ⟨hc36, hj2⟩ | ⟨hc36, hj2⟩
  ·refine eZ hc36 (by decide) ?_
   exact absurd hj2 (by simp)
  rcases dw hj2 with ⟨hc37, hj2⟩ | ⟨hc37, hj2⟩
  ·refine eZ hc37 (by decide) ?_
   obtain ⟨x30, hx30, hj2⟩ := ob hj2
   refine cP (fI _ _ _ _ _ _ _ hx30) (⟨rfl, ?_⟩)
   cases hj2
   exact t15x0 (hR3 _ _)
  rcases dw hj2 with ⟨hc38, hj2⟩ | ⟨hc38, hj2⟩
  ·refine eZ hc38 (by decide) ?_
   obtain ⟨x31, hx31, hj2⟩ := ob hj2
   refine cP (Cc _ _ _ hx31) (⟨rfl, ?_⟩)
   cases hj2
   exact t15x0 (hR3 _ _)
  rcases dw hj2 with ⟨hc39, hj2⟩ | ⟨hc39, hj2⟩
  ·refine eZ hc39 (by decide) ?_
   obtain ⟨x32, hx32, hj2⟩ := ob hj2
   refine cP (Cc _ _ _ hx32) (⟨rfl, ?_⟩)
   cases hj2
   exact t15x0 (hR3 _ _)
  rcases dw hj2 with ⟨hc40, hj2⟩ | ⟨hc40, hj2⟩
  ·refine eZ hc40 (by decide) ?_
   obtain ⟨x33, hx33, hj2⟩ := ob hj2
   refine cP (Cc _ _ _ hx33) (⟨rfl, ?_⟩)
   cases hj2
   exact t15x0 (hR3 _ _)
  rcases dw hj2 with ⟨hc41, hj2⟩ | ⟨hc41, hj2⟩
  ·refine eZ hc41 (by decide) ?_
   obtain ⟨x34, hx34, hj2⟩ := ob hj2
   refine cP (VL _ _ _ hx34) (⟨rfl, ?_⟩)
   cases hj2
   exact t15x0 (hR3 _ _)
  rcases dw hj2 with ⟨hc42, hj2⟩ | ⟨hc42, hj2⟩
  ·refine eZ hc42 (by decide) ?_
   obtain ⟨x35, hx35, hj2⟩ := ob hj2
   refine cP (LJ _ _ _ hx35) (⟨rfl, ?_⟩)
   cases hj2
   exact t15x0 (hR3 _ _)
  rcases dw hj2 with ⟨hc43, hj2⟩ | ⟨hc43, hj2⟩
  ·refine eZ hc43 (by decide) ?_
   obtain ⟨x36, hx36, hj2⟩ := ob hj2
   refine cP (Ky _ _ _ hx36) (⟨rfl, ?_⟩)
   cases hj2
   exact t15x0 (hR3 _ _)
  rcases dw hj2 with ⟨hc44, hj2⟩ | ⟨hc44, hj2⟩
  ·refine eZ hc44 (by decide) ?_
   obtain ⟨x37, hx37, hj2⟩ := ob hj2
   refine cP (LU _ _ _ hx37) (⟨rfl, ?_⟩)
   cases hj2
   exact t15x0 (hR3 _ _)
  rcases dw hj2 with ⟨hc45, hj2⟩ | ⟨hc45, hj2⟩
  ·refine eZ hc45 (by decide) ?_
   obtain ⟨x38, hx38, hj2⟩ := ob hj2
   refine cP (LU _ _ _ hx38) (⟨rfl, ?_⟩)
   cases hj2
   exact t15x0 (hR3 _ _)
  rcases dw hj2 with ⟨hc46, hj2⟩ | ⟨hc46, hj2⟩
  ·refine eZ hc46 (by decide) ?_
   obtain ⟨x39, hx39, hj2⟩ := ob hj2
   refine cP (Cv _ _ _ hx39) (⟨rfl, ?_⟩)
   cases hj2
   exact t15x0 (hR3 _ _)
  rcases dw hj2 with ⟨hc47, hj2⟩ | ⟨hc47, hj2⟩
  ·refine eZ hc47 (by decide) ?_
   obtain ⟨x40, hx40, hj2⟩ := ob hj2
   refine cP (Cv _ _ _ hx40) (⟨rfl, ?_⟩)
   cases hj2
   exact t15x0 (hR3 _ _)
  rcases dw hj2 with ⟨hc48, hj2⟩ | ⟨hc48, hj2⟩
  ·refine eZ hc48 (by decide) ?_
   obtain ⟨x41, hx41, hj2⟩ := ob hj2
   refine cP (vU _ _ _ hx41) (⟨rfl, ?_⟩)
   cases hj2
   exact t15x0 (hR3 _ _)
  rcases dw hj2 with ⟨hc49, hj2⟩ | ⟨hc49, hj2⟩
  ·refine eZ hc49 (by decide) ?_
   obtain ⟨x42, hx42, hj2⟩ := ob hj2
   refine cP (vU _ _ _ hx42) (⟨rfl, ?_⟩)
   cases hj2
   exact t15x0 (hR3 _ _)
  rcases dw hj2 with ⟨hc50, hj2⟩ | ⟨hc50, hj2⟩
  ·refine eZ hc50 (by decide) ?_
   obtain ⟨x43, hx43, hj2⟩ := ob hj2
   refine cP (vU _ _ _ hx43) (⟨rfl, ?_⟩)
   cases hj2
   exact t15x0 (hR3 _ _)
  rcases dw hj2 with ⟨hc51, hj2⟩ | ⟨hc51, hj2⟩
  ·refine eZ hc51 (by decide) ?_
   obtain ⟨x44, hx44, hj2⟩ := ob hj2
   refine cP (vU _ _ _ hx44) (⟨rfl, ?_⟩)
   cases hj2
   exact t15x0 (hR3 _ _)
  rcases dw hj2 with ⟨hc52, hj2⟩ | ⟨hc52, hj2⟩
  ·refine eZ hc52 (by decide) ?_
   obtain ⟨x45, hx45, hj2⟩ := ob hj2
   refine cP (vU _ _ _ hx45) (⟨rfl, ?_⟩)
   cases hj2
   exact t15x0 (hR3 _ _)
  rcases dw hj2 with ⟨hc53, hj2⟩ | ⟨hc53, hj2⟩
  ·refine eZ hc53 (by decide) ?_
   obtain ⟨x46, hx46, hj2⟩ := ob hj2
   refine cP (R8 _ _ _ hx46) (⟨rfl, ?_⟩)
   cases hj2
   exact t15x0 (hR3 _ _)
  rcases dw hj2 with ⟨hc54, hj2⟩ | ⟨hc54, hj2⟩
  ·refine eZ hc54 (by decide) ?_
   obtain ⟨x47, hx47, hj2⟩ := ob hj2
   refine cP (R3 _ _ _ hx47) (⟨rfl, ?_⟩)
   cases hj2
   exact t15x0 (hR3 _ _)
  rcases dw hj2 with ⟨hc55, hj2⟩ | ⟨hc55, hj2⟩
  ·refine eZ hc55 (by decide) ?_
   obtain ⟨x48, hx48, hj2⟩ := ob hj2
   refine cP (Hf _ _ _ hx48) (⟨rfl, ?_⟩)
   cases hj2
   exact t15x0 (hR3 _ _)
  rcases dw hj2 with ⟨hc56, hj2⟩ | ⟨hc56, hj2⟩
  ·refine eZ hc56 (by decide) ?_
   obtain ⟨x49, hx49, hj2⟩ := ob hj2
   refine cP (Hf _ _ _ hx49) (⟨rfl, ?_⟩)
   cases hj2
   exact t15x0 (hR3 _ _)
  rcases dw hj2 with ⟨hc57, hj2⟩ | ⟨hc57, hj2⟩
  ·refine eZ hc57 (by decide) ?_
   obtain ⟨x50, hx50, hj2⟩ := ob hj2
   refine cP (LK _ _ _ hx50) (⟨rfl, ?_⟩)
   cases hj2
   exact t15x0 (hR3 _ _)
  rcases dw hj2 with ⟨hc58, hj2⟩ | ⟨hc58, hj2⟩
  ·refine eZ hc58 (by decide) ?_
   obtain ⟨x51, hx51, hj2⟩ := ob hj2
   refine cP (KZ _ _ _ hx51) (⟨rfl, ?_⟩)
   cases hj2
   exact t15x0 (hR3 _ _)
  rcases dw hj2 with ⟨hc59, hj2⟩ | ⟨hc59, hj2⟩
  ·refine eZ hc59 (by decide) ?_
   obtain ⟨x52, hx52, hj2⟩ := ob hj2
   refine cP (Lb _ _ _ hx52) (⟨rfl, ?_⟩)
   cases hj2
   exact t15x0 (hR3 _ _)
  rcases dw hj2 with ⟨hc60, hj2⟩ | ⟨hc60, hj2⟩
  ·refine eZ hc60 (by decide) ?_
   obtain ⟨x53, hx53, hj2⟩ := ob hj2
   refine cP (Ku _ _ _ hx53) (⟨rfl, ?_⟩)
   cases hj2
   exact t15x0 (hR3 _ _)
  rcases dw hj2 with ⟨hc61, hj2⟩ | ⟨hc61, hj2⟩
  ·refine eZ hc61 (by decide) ?_
   obtain ⟨x54, hx54, hj2⟩ := ob hj2
   refine cP (Lx _ _ _ hx54) (⟨rfl, ?_⟩)
   cases hj2
   exact t15x0 (hR3 _ _)
  rcases dw hj2 with ⟨hc62, hj2⟩ | ⟨hc62, hj2⟩
  ·refine eZ hc62 (by decide) ?_
   obtain ⟨x55, hx55, hj2⟩ := ob hj2
   refine cP (Sq _ _ _ hx55) (⟨rfl, ?_⟩)
   cases hj2
   exact t15x0 (hR3 _ _)
  rcases dw hj2 with ⟨hc63, hj2⟩ | ⟨hc63, hj2⟩
  ·refine eZ hc63 (by decide) ?_
   obtain ⟨x56, hx56, hj2⟩ := ob hj2
   refine cP (XA _ _ _ hx56) (⟨rfl, ?_⟩)
   cases hj2
   exact t15x0 (hR3 _ _)
  exact absurd hj2 (by simp)
 refine .loopS (oq n qd9 qd8 p0 p1 p3) (fun (s1 : (List Decl) × (List Ty) × Int × (List Int)) => (.ptr 0 0 :: (.unk :: (.flist (List.map aO s1.1) :: (.unk :: (.ptr 4 0 :: (.unk :: (.ptr 5 0 :: (.unk :: (.slice (List.map aI s1.2.1) (.tip 6 3) :: (u8 (u4 (.unk :: (.i (p3.kids.length : Int) :: (.i s1.2.2.1 :: (u64 (u32 (u4 [])))))))))))))))))) (fun (s1 : (List Decl) × (List Ty) × Int × (List Int)) => [.box (.mapr 1 :: (.mapr 2 :: (eU ++ (.psl 7 1 (List.length s1.2.2.2) :: [])))), .mp (iW p0), .mp (iB p1), .dead, .box [.i p3.op, .str p3.name, .i p3.n, .i p3.ty.kind, .str p3.ty.name, aH p3.ty.kids, aZ p3.kids], .box [.i 0, .str ([] : Str), .slice (List.map aI ([] : List Ty)) .nils], .tip (List.length s1.2.1 * 3), .arr 1 (List.map encI s1.2.2.2)]) ho1 (fun _ => rfl) (wk [some 0, some 1, some 2, some 3, some 4, some 5, none, some 3] (.c rfl (.u (.cons (.flS (aF _ _)) (.u (.c rfl (.u (.c rfl (.u (.cons (.nils _ _) (.u8 (.u4 (.u (.c2 (.u64 (.u32 (.u4 .nil)))))))))))))))) (.b rfl (.c2 (.dO aP (.c rfl .nil))) (.old .mT (.old .mB (.old (.dead _) (.b rfl (.c4 (.c rfl (.e aA (.e aK .nil)))) (.b rfl (.c2 (.c rfl .nil)) (.w rfl (.old (.arr' aQ (aT _)) .nil)))))))) rfl) ?_
 intro n1 s1 hs1 KL1 hKL1
 unfold oq at hs1
 refine .r fun K27 k27 => (k27 _ _ ?_)
 refine .q fun K28 k28 => (.ak rfl hs1 (fun hc64 hs1 => ?_) (fun hc64 hs1 => ?_))
 ·refine .skip (k28 _ _ ?_)
  refine .q fun K29 k29 => ?_
  obtain ⟨o2, hj3, hs1⟩ := ob hs1
  have hR4 : ∀ s5 : (List Decl) × (List Ty) × (List Int), o2 = .nx s5 → ∀ t9 h9, Le 4 t9 h9 (.ptr 0 0 :: (.unk :: (.flist (List.map aO s5.1) :: (.unk :: (.ptr 4 0 :: (.unk :: (.ptr 5 0 :: (.unk :: (.slice (List.map aI s5.2.1) (.tip 6 3) :: (u8 (u4 (.unk :: (.i (p3.kids.length : Int) :: (.i s1.2.2.1 :: (u64 (u32 (u4 []))))))))))))))))) [.box (.mapr 1 :: (.mapr 2 :: (eU ++ (.psl 7 1 (List.length s5.2.2) :: [])))), .mp (iW p0), .mp (iB p1), .dead, .box [.i p3.op, .str p3.name, .i p3.n, .i p3.ty.kind, .str p3.ty.name, aH p3.ty.kids, aZ p3.kids], .box [.i 0, .str ([] : Str), .slice (List.map aI ([] : List Ty)) .nils], .tip (List.length s5.2.1 * 3), .arr 1 (List.map encI s5.2.2)] → K29 t9 h9 := by
   intro s5 ho
   subst ho
   dsimp only [LR.el] at hs1
   intro t9 h9 hw
   refine k29 _ _ (AW.le hw ?_)
   clear hw
   refine .know 23 0 fun hv1 => (.know 22 0 fun hv2 => ?_)
   refine rg 0 (⟨(s1.2.2.1 + 1), by have := dz hv1; have := dz hv2; have h8 := of_decide_eq_true hc64; exact bC (by omega) (by omega), ?_⟩)
   exact hKL1 _ _ _ hs1 (wk [some 0, some 1, some 2, some 3, some 4, some 5, some 6, some 7] (.c rfl (.u (.cons (.flS (aF _ _)) (.u (.c rfl (.u (.c rfl (.u (.cons (.bG (aA _ _) rfl) (.u8 (.u4 (.u (.c2 (.u64 (.u32 (.u4 .nil)))))))))))))))) (.b rfl (.c2 (.dO aP (.c rfl .nil))) (.old .mT (.old .mB (.old (.dead _) (.b rfl (.c4 (.c rfl (.e aA (.e aK .nil)))) (.b rfl (.c2 (.c rfl .nil)) (.t rfl (.old (.arr' aQ (aT _)) .nil)))))))) rfl)
  refine .block (.r fun K30 k30 => ?_)
  refine k30 _ _ (.q fun K31 k31 => rg 2 ?_)
  obtain ⟨x57, hx57, hj3⟩ := ob hj3
  refine bZ [0, 1, 2, 7] [8] [.ptr 0 0, bD p3, .i s1.2.2.1, .flist (List.map aO s1.1)] [.ptr 0 0, bD p3, .i s1.2.2.1, .flist (List.map aO s1.1)] (qci _ _ _ _ _ _ _ hx57) aM rfl (.cons (by simp only [dx, ren, bS, bK, dM, bO, aQ, aY, bQ, aA, aK, au, aF, aP]; try rfl) (.cons (congrArg AObj.mp (eu (f := bn) (fun g x => by simp) _ _)) (.cons (congrArg AObj.mp (eu (f := (fun (x : Bool) => .bool x)) (fun g x => rfl) _ _)) (.cons (congrArg (AObj.arr _) (aQ _ _)) .nil)))) (by simp; try decide) (.cons (.same _) (.cons (.same _) (.cons (.same _) (.cons (.same _) .nil)))) (rn := .aW [bn x57.1, .i x57.2.1]) (by simp; try decide) (Hn := [.box (.mapr 1 :: (.mapr 2 :: (eU ++ (.psl 8 1 (List.length x57.2.2) :: [])))), .mp (iW p0), .mp (iB p1), .dead, .arr 1 (List.map encI x57.2.2)]) ((bN (by simp only [dx, ren, bS, bK, dM, bO, aQ, aY, bQ, aA, aK, au, aF, aP]; try rfl) (bN (congrArg AObj.mp (eu (f := bn) (fun g x => by simp) _ _)) (bN (congrArg AObj.mp (eu (f := (fun (x : Bool) => .bool x)) (fun g x => rfl) _ _)) (bN (rfl) (bN (congrArg (AObj.arr _) (aQ _ _)) rfl)))))) ?_
  refine k31 _ _ (.q fun K32 k32 => .r fun K33 k33 => ?_)
  refine k33 _ _ (.ak rfl hj3 (fun hc65 hj3 => ?_) (fun hc65 hj3 => ?_))
  ·refine .r fun K34 k34 => (k34 _ _ ?_)
   refine .ret ?_
   obtain rfl := sj hj3
   dsimp only [LR.el] at hs1
   obtain rfl := sj hs1
   dsimp only [LR.el] at h
   obtain rfl := sj h
   refine hQ _ _ _ (gF (u4 (u2 (.ptr 4 0 :: (.i x57.2.1 :: (u64 (u32 (u16 (u4 [])))))))) [.box (.mapr 1 :: (.mapr 2 :: (eU ++ (.psl 5 1 (List.length x57.2.2) :: [])))), .mp (iW p0), .mp (iB p1), .dead, .box [.i 0, .str ([] : Str), .slice (List.map aI ([] : List Ty)) .nils], .arr 1 (List.map encI x57.2.2)] (wk [some 0, some 1, some 2, some 3, some 5, some 8] (.u4 (.u2 (.c2 (.u64 (.u32 (.u16 (.u4 .nil))))))) (.b rfl (.c2 (.dO aP (.c rfl .nil))) (.old .mT (.old .mB (.old (.dead _) (.b rfl (.c2 (.c rfl .nil)) (.old (.arr' aQ (aT _)) .nil)))))) rfl) (dA dJ [0, 1, 2, 3, 5] rfl (.cons (by simp only [dx, ren, bS, bK, dM, bO, aQ, aY, bQ, aA, aK, au, aF, aP]; try rfl) (.cons (congrArg AObj.mp (eu (f := bn) (fun g x => by simp) _ _)) (.cons (congrArg AObj.mp (eu (f := (fun (x : Bool) => .bool x)) (fun g x => rfl) _ _)) (.cons (rfl) (.cons (congrArg (AObj.arr _) (aQ _ _)) .nil))))) ?_))
   exact fin
  refine .skip (k32 _ _ ?_)
  refine .q fun K35 k35 => rg 2 (⟨List.map aI ([x57.1]), by simp only [List.map_cons, List.map_nil, aR]; rfl, ?_⟩)
  obtain ⟨x58, hx58, hj3⟩ := ob hj3
  refine eG (l := s1.2.1) (ys := [x57.1]) (f := aI) hx58 ahv rfl rfl rfl (k35 _ _ ?_)
  refine .q fun K36 k36 => ?_
  obtain ⟨s6, hj4, hj3⟩ := ob hj3
  have hR5 : ∀ t9 h9, Le 4 t9 h9 (.ptr 0 0 :: (.unk :: (.flist (List.map aO s1.1) :: (.unk :: (.ptr 4 0 :: (.unk :: (.ptr 5 0 :: (.unk :: (.slice (List.map aI x58) (.tip 6 3) :: (.unk :: (.ptr 7 0 :: (u8 (u2 (.unk :: (.i (p3.kids.length : Int) :: (.i s1.2.2.1 :: (u16 (u8 (.bool s6 :: (u64 (u8 (u2 (.unk :: []))))))))))))))))))))))) [.box (.mapr 1 :: (.mapr 2 :: (eU ++ (.psl 8 1 (List.length x57.2.2) :: [])))), .mp (iW p0), .mp (iB p1), .dead, .box [.i p3.op, .str p3.name, .i p3.n, .i p3.ty.kind, .str p3.ty.name, aH p3.ty.kids, aZ p3.kids], .box [.i 0, .str ([] : Str), .slice (List.map aI ([] : List Ty)) .nils], .tip (List.length x58 * 3), .box [.i x57.1.kind, .str x57.1.name, aH x57.1.kids], .arr 1 (List.map encI x57.2.2)] → K36 t9 h9 := by
   intro t9 h9 hw
   refine k36 _ _ (AW.le hw ?_)
   clear hw
   refine .ak rfl hj3 (fun hc66 hj3 => ?_) (fun hc66 hj3 => ?_)
   ·refine .r1 fun K37 k37 => ?_
    obtain ⟨x59, hx59, hj3⟩ := ob hj3
    refine cP (fE _ _ _ hx59) (k37 _ _ ?_)
    refine .q fun K38 k38 => .r fun K39 k39 => (k39 _ _ ?_)
    refine .ak rfl hj3 (fun hc67 hj3 => ?_) (fun hc67 hj3 => ?_)
    ·refine .r fun K40 k40 => (k40 _ _ ?_)
     refine .ret ?_
     obtain rfl := sj hj3
     dsimp only [LR.el] at hs1
     obtain rfl := sj hs1
     dsimp only [LR.el] at h
     obtain rfl := sj h
     refine hQ _ _ _ (gF (u4 (u2 (.ptr 4 0 :: (.i 7 :: (u64 (u32 (u16 (u4 [])))))))) [.box (.mapr 1 :: (.mapr 2 :: (eU ++ (.psl 5 1 (List.length x57.2.2) :: [])))), .mp (iW p0), .mp (iB p1), .dead, .box [.i 0, .str ([] : Str), .slice (List.map aI ([] : List Ty)) .nils], .arr 1 (List.map encI x57.2.2)] (wk [some 0, some 1, some 2, some 3, some 5, some 8] (.u4 (.u2 (.c2 (.u64 (.u32 (.u16 (.u4 .nil))))))) (.b rfl (.c2 (.dO aP (.c rfl .nil))) (.old .mT (.old .mB (.old (.dead _) (.b rfl (.c2 (.c rfl .nil)) (.old (.arr' aQ (aT _)) .nil)))))) rfl) (dA dJ [0, 1, 2, 3, 5] rfl (.cons (by simp only [dx, ren, bS, bK, dM, bO, aQ, aY, bQ, aA, aK, au, aF, aP]; try rfl) (.cons (congrArg AObj.mp (eu (f := bn) (fun g x => by simp) _ _)) (.cons (congrArg AObj.mp (eu (f := (fun (x : Bool) => .bool x)) (fun g x => rfl) _ _)) (.cons (rfl) (.cons (congrArg (AObj.arr _) (aQ _ _)) .nil))))) ?_))
     exact fin
    refine .skip (k38 _ _ ?_)
    refine rg 1 ?_
    exact hR4 _ (sj hj3).symm _ _ (wk [some 0, some 1, some 2, some 3, some 4, some 5, some 6, some 8] (.c rfl (.u (.cons (.avy (cs' := [.str p3.name, .i x59.1.kind, .str x59.1.name, aH x59.1.kids]) (v := .flist (List.map aO s1.1)) rfl rfl (.c2 (.c rfl (.e aA .nil))) (.flS (aF _ _))) (.u (.c rfl (.u (.c rfl (.u (.cons (.bG (aA _ _) rfl) (.u8 (.u4 (.u (.c2 (.u64 (.u32 (.u4 .nil)))))))))))))))) (.b rfl (.c2 (.dO aP (.c rfl .nil))) (.old .mT (.old .mB (.old (.dead _) (.b rfl (.c4 (.c rfl (.e aA (.e aK .nil)))) (.b rfl (.c2 (.c rfl .nil)) (.t rfl (.old (.arr' aQ (aT _)) .nil)))))))) rfl)
   refine .skip ?_
   exact hR4 _ (sj hj3).symm _ _ (wk [some 0, some 1, some 2, some 3, some 4, some 5, some 6, some 8] (.c rfl (.u (.cons (.flS (aF _ _)) (.u (.c rfl (.u (.c rfl (.u (.cons (.bG (aA _ _) rfl) (.u8 (.u4 (.u (.c2 (.u64 (.u32 (.u4 .nil)))))))))))))))) (.b rfl (.c2 (.dO aP (.c rfl .nil))) (.old .mT (.old .mB (.old (.dead _) (.b rfl (.c4 (.c rfl (.e aA (.e aK .nil)))) (.b rfl (.c2 (.c rfl .nil)) (.t rfl (.old (.arr' aQ (aT _)) .nil)))))))) rfl)
  refine rg 0 (aD hj4 (fun hc68 hj4 => ?_) (fun hc68 hj4 => ?_))
  ·obtain ⟨x60, hx60, hj4⟩ := ob hj4
   refine aj (Zf _ _ _ hx60) aM (.cons (.same _) .nil) (fun g => rfl) (fun g => rfl) ?_
   cases hj4
   exact t15x1 (hR5 _ _)
  cases hj4
  exact t15x1 (hR5 _ _)
 refine .exit ?_
 exact hR1 _ (sj hs1).symm _ _ (wk [some 0, some 1, some 2, some 3, some 4, some 5, some 6, some 7] (.c rfl (.u (.cons (.flS (aF _ _)) (.u (.c rfl (.u (.c rfl (.u (.cons (.bG (aA _ _) rfl) (.u64 (.u32 (.u16 (.u2 (.u .nil)))))))))))))) (.b rfl (.c2 (.dO aP (.c rfl .nil))) (.old .mT (.old .mB (.old (.dead _) (.b rfl (.c4 (.c rfl (.e aA (.e aK .nil)))) (.b rfl (.c2 (.c rfl .nil)) (.t rfl (.old (.arr' aQ (aT _)) .nil)))))))) rfl)
theorem Ic (n : Nat) (qd9 : (List (Str × Ty)) → (List (Str × Bool)) → (List Int) → Tm → (List Decl) → Option (Ty × Int × (List Int))) (qd8 : (List (Str × Ty)) → (List (Str × Bool)) → (List Int) → Tm → Int → (List Decl) → Option (Ty × Int × (List Int))) (qcj : qew qd9) (qci : qev qd8) (p0 : List (Str × Ty)) (p1 : List (Str × Bool)) (p2 : List Int) (p3 : Tm) (p4 : Int) (p5 : List Decl) (r : Ty × Int × (List Int)) (h : ng n qd9 qd8 p0 p1 p2 p3 p4 p5 = some r) : aB Tryz.prog 132 [.ptr 0 0, bD p3, .i p4, .flist (List.map aO p5)] [.box (.mapr 1 :: (.mapr 2 :: (eU ++ (.psl 3 1 (List.length p2) :: [])))), .mp (iW p0), .mp (iB p1), .arr 1 (List.map encI p2)] (.aW [bn r.1, .i r.2.1]) [.box (.mapr 1 :: (.mapr 2 :: (eU ++ (.psl 4 1 (List.length r.2.2) :: [])))), .mp (iW p0), .mp (iB p1), .dead, .arr 1 (List.map encI r.2.2)] := by
 unfold ng at h
 refine ah true Tryz.func132 rfl (nt Tryz.ntmps132 rfl) fun Q hQ t ht => ?_
 conv at ht => whnf
 subst ht
 refine .q fun K1 k1 => rg 2 (k1 _ _ ?_)
 refine .q fun K2 k2 => rg 2 (⟨List.map encI ([p4]), rfl, ?_⟩)
 obtain ⟨x1, hx1, h⟩ := ob h
 refine Vo (l := p2) (l' := p2) (ys := ([p4])) (f := encI) hx1 (aT _) amJ (k2 _ _ ?_)
 refine .q fun K3 k3 => rg 2 ?_
 obtain ⟨x2, hx2, h⟩ := ob h
 refine aG (l := p3.kids) (f := aN) (cs := [.i ((x2).op), .str ((x2).name), .i ((x2).n), .i (((x2).ty).kind), .str (((x2).ty).name), aH (((x2).ty).kids), aZ ((x2).kids)]) hx2 (aS x2) rfl ?_
 obtain ⟨x3, hx3, h⟩ := ob h
 refine bZ [0, 1, 2, 7] [8] [.ptr 0 0, bD x2, .flist (List.map aO p5)] [.ptr 0 0, bD x2, .flist (List.map aO p5)] (qcj _ _ _ _ _ _ hx3) aM rfl (.cons (by simp only [dx, ren, bS, bK, dM, bO, aQ, aY, bQ, aA, aK, au, aF, aP]; try rfl) (.cons (congrArg AObj.mp (eu (f := bn) (fun g x => by simp) _ _)) (.cons (congrArg AObj.mp (eu (f := (fun (x : Bool) => .bool x)) (fun g x => rfl) _ _)) (.cons (congrArg (AObj.arr _) (aQ _ _)) .nil)))) (by simp; try decide) (.cons (.same _) (.cons (.same _) (.cons (.same _) .nil))) (rn := .aW [bn x3.1, .i x3.2.1]) (by simp; try decide) (Hn := [.box (.mapr 1 :: (.mapr 2 :: (eU ++ (.psl 8 1 (List.length x3.2.2) :: [])))), .mp (iW p0), .mp (iB p1), .dead, .arr 1 (List.map encI x3.2.2)]) ((bN (by simp only [dx, ren, bS, bK, dM, bO, aQ, aY, bQ, aA, aK, au, aF, aP]; try rfl) (bN (congrArg AObj.mp (eu (f := bn) (fun g x => by simp) _ _)) (bN (congrArg AObj.mp (eu (f := (fun (x : Bool) => .bool x)) (fun g x => rfl) _ _)) (bN (rfl) (bN (congrArg (AObj.arr _) (aQ _ _)) rfl)))))) ?_
 refine k3 _ _ (.q fun K4 k4 => ?_)
 obtain ⟨s1, hj1, h⟩ := ob h
 have hR1 : ∀ t9 h9, Le 4 t9 h9 (u8 (.ptr 4 0 :: (.unk :: (.ptr 5 0 :: (.i x3.2.1 :: (u32 (u4 (u2 (.unk :: []))))))))) [.box (.mapr 1 :: (.mapr 2 :: (eU ++ (.psl 6 1 (List.length s1) :: [])))), .mp (iW p0), .mp (iB p1), .dead, .box [.i 0, .str ([] : Str), .slice (List.map aI ([] : List Ty)) .nils], .box [.i x3.1.kind, .str x3.1.name, aH x3.1.kids], .arr 1 (List.map encI s1)] → K4 t9 h9 := by
  intro t9 h9 hw
  refine k4 _ _ (AW.le hw ?_)
  clear hw
  refine .r fun K5 k5 => (k5 _ _ ?_)
  refine .ret ?_
  obtain rfl := sj h
  refine hQ _ _ _ (gF (u8 (.ptr 4 0 :: (.i x3.2.1 :: (u32 (u8 (.unk :: [])))))) [.box (.mapr 1 :: (.mapr 2 :: (eU ++ (.psl 5 1 (List.length s1) :: [])))), .mp (iW p0), .mp (iB p1), .dead, .box [.i x3.1.kind, .str x3.1.name, aH x3.1.kids], .arr 1 (List.map encI s1)] (wk [some 0, some 1, some 2, some 3, some 4, some 6] (.u8 (.c2 (.u32 (.u8 (.u .nil))))) (.b rfl (.c2 (.dO aP (.c rfl .nil))) (.old .mT (.old .mB (.old (.dead _) (.b rfl (.c2 (.e aA .nil)) (.old (.arr' aQ (aT _)) .nil)))))) rfl) (dA dJ [0, 1, 2, 3, 5] rfl (.cons (by simp only [dx, ren, bS, bK, dM, bO, aQ, aY, bQ, aA, aK, au, aF, aP]; try rfl) (.cons (congrArg AObj.mp (eu (f := bn) (fun g x => by simp) _ _)) (.cons (congrArg AObj.mp (eu (f := (fun (x : Bool) => .bool x)) (fun g x => rfl) _ _)) (.cons (rfl) (.cons (congrArg (AObj.arr _) (aQ _ _)) .nil))))) ?_))
  exact fin
 refine .r fun K6 k6 => (k6 _ _ ?_)
 refine .ak rfl hj1 (fun hc1 hj1 => ?_) (fun hc1 hj1 => ?_)
 ·refine rg 0 (⟨(IntKind.wrap .i64 ((x3.2.2.length : Int) - 1)), rfl, ?_⟩)
  obtain ⟨x4, hx4, hj1⟩ := ob hj1
  refine as7 hx4 (⟨rfl, ?_⟩)
  cases hj1
  exact hR1 _ _ (wk [some 0, some 1, some 2, some 3, some 5, some 9, some 8] (.u8 (.c rfl (.u (.c2 (.u32 (.u4 (.u2 (.u .nil)))))))) (.b rfl (.c2 (.dO aP (.c rfl .nil))) (.old .mT (.old .mB (.old (.dead _) (.b rfl (.c2 (.c rfl .nil)) (.b rfl (.c2 (.e aA .nil)) (.old (.arr' aQ (ap5 hx4 (aT _))) .nil))))))) rfl)
 refine .skip ?_
 cases hj1
 exact hR1 _ _ (wk [some 0, some 1, some 2, some 3, some 5, some 9, some 8] (.u8 (.c rfl (.u (.c2 (.u32 (.u4 (.u2 (.u .nil)))))))) (.b rfl (.c2 (.dO aP (.c rfl .nil))) (.old .mT (.old .mB (.old (.dead _) (.b rfl (.c2 (.c rfl .nil)) (.b rfl (.c2 (.e aA .nil)) (.old (.arr' aQ (aT _)) .nil))))))) rfl)
theorem FD (n : Nat) : qew (jE n) ∧ qev (iq n) := by
 induction n with
 | zero => exact ⟨(fun p0 p1 p2 p3 p4 r h => by unfold jE at h; cases h), (fun p0 p1 p2 p3 p4 p5 r h => by unfold iq at h; cases h)⟩
 | succ n ih =>
  exact ⟨(fun p0 p1 p2 p3 p4 r h => JK n _ _ ih.1 ih.2 p0 p1 p2 p3 p4 r (by unfold jE at h; exact h)), (fun p0 p1 p2 p3 p4 p5 r h => Ic n _ _ ih.1 ih.2 p0 p1 p2 p3 p4 p5 r (by unfold iq at h; exact h))⟩
theorem PG (n : Nat) : qew (jE n) := (FD n).1
end Abs
end Go.Proofs.YtiiaccpcoclklaaGreat
