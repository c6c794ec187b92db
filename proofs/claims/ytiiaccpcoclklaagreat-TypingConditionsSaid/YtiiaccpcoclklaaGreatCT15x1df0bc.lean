/-
  Plain functions and the contracts of Go functions by them (printed by gen.py). Conditions: none.
-/
import Derived.KernelRfl
import Derived.Test.YtiiaccpcoclklaaGreatCAbs38xf5d4b8
import Derived.Test.YtiiaccpcoclklaaGreatCDfx70d822
import Derived.Test.YtiiaccpcoclklaaGreatCDgx5ff6e3
import Derived.Test.YtiiaccpcoclklaaGreatCT6x32a01b
import Derived.Test.YtiiaccpcoclklaaGreatCT9xe36993
import Derived.Test.YtiiaccpcoclklaaGreatCT11xbc19cd
import Derived.Test.YtiiaccpcoclklaaGreatCT10x24b770
import Derived.Test.YtiiaccpcoclklaaGreatCT12xe54e45
import Derived.Test.YtiiaccpcoclklaaGreatCT13xefd23a
set_option linter.unusedSimpArgs false
set_option linter.unusedVariables false
namespace Go.Proofs.YtiiaccpcoclklaaGreat
namespace Abs
open Go Go.Proofs
set_option maxRecDepth 100000
set_option maxHeartbeats 40000000
theorem bX {p q : Prop} (f : p → q) (h : p := by exact wk [some 0, some 1, some 2, some 3, some 5, some 8, some 7] (.u4 (.u2 (.c rfl (.u8 (.u2 (.u (.c rfl (.c rfl (.u64 (.u32 (.u8 .nil))))))))))) (.b rfl (.c rfl (.c rfl (.jX aI (.c rfl .nil)))) (.old .mT (.old .mB (.old (.dead _) (.b rfl (.c rfl (.c rfl (.c rfl .nil))) (.b rfl (.c rfl (.c rfl (.e aF .nil))) (.old (.arr' aL (bB _)) .nil))))))) rfl) : q := f h
theorem Sy {p q : Prop} (f : p → q) (h : p := by exact wk [some 0, some 1, some 2, some 3, some 4, some 5, some 11, some 9, some 8] (.c rfl (.u (.cons (.N7 (aK _ _)) (.u (.c rfl (.u (.c rfl (.u (.cons (.su (aF _ _) rfl) (.u (.c rfl (.u8 (.u2 (.u (.c rfl (.c rfl (.u16 (.u8 (.c rfl (.u64 (.u8 (.u2 (.u .nil))))))))))))))))))))))) (.b rfl (.c rfl (.c rfl (.jX aI (.c rfl .nil)))) (.old .mT (.old .mB (.old (.dead _) (.b rfl (.c rfl (.c rfl (.c rfl (.c rfl (.c rfl (.e aF (.e aT .nil))))))) (.b rfl (.c rfl (.c rfl (.c rfl .nil))) (.t rfl (.b rfl (.c rfl (.c rfl (.e aF .nil))) (.old (.arr' aL (bB _)) .nil))))))))) rfl) : q := f h
abbrev nk (rec_typing_checker_of : (List (Str × Ty)) → (List (Str × Bool)) → (List Int) → Tm → (List Decl) → Option (Ty × Int × (List Int))) : Prop := ∀ (p0 : List (Str × Ty)) (p1 : List (Str × Bool)) (p2 : List Int) (p3 : Tm) (p4 : List Decl) (r : Ty × Int × (List Int)), rec_typing_checker_of p0 p1 p2 p3 p4 = some r → ak Tryz.prog 68 [.ptr 0 0, dW p3, .flist (List.map bD p4)] [.box (.mapr 1 :: (.mapr 2 :: (bR ++ (.psl 3 1 (List.length p2) :: [])))), .mp (dZ p0), .mp (dL p1), .arr 1 (List.map encI p2)] (.tup [aQ r.1, .i r.2.1]) [.box (.mapr 1 :: (.mapr 2 :: (bR ++ (.psl 4 1 (List.length r.2.2) :: [])))), .mp (dZ p0), .mp (dL p1), .dead, .arr 1 (List.map encI r.2.2)]
abbrev nY (rec_typing_checker_child : (List (Str × Ty)) → (List (Str × Bool)) → (List Int) → Tm → Int → (List Decl) → Option (Ty × Int × (List Int))) : Prop := ∀ (p0 : List (Str × Ty)) (p1 : List (Str × Bool)) (p2 : List Int) (p3 : Tm) (p4 : Int) (p5 : List Decl) (r : Ty × Int × (List Int)), rec_typing_checker_child p0 p1 p2 p3 p4 p5 = some r → ak Tryz.prog 132 [.ptr 0 0, dW p3, .i p4, .flist (List.map bD p5)] [.box (.mapr 1 :: (.mapr 2 :: (bR ++ (.psl 3 1 (List.length p2) :: [])))), .mp (dZ p0), .mp (dL p1), .arr 1 (List.map encI p2)] (.tup [aQ r.1, .i r.2.1]) [.box (.mapr 1 :: (.mapr 2 :: (bR ++ (.psl 4 1 (List.length r.2.2) :: [])))), .mp (dZ p0), .mp (dL p1), .dead, .arr 1 (List.map encI r.2.2)]
theorem wH (n : Nat) (rec_typing_checker_of : (List (Str × Ty)) → (List (Str × Bool)) → (List Int) → Tm → (List Decl) → Option (Ty × Int × (List Int))) (rec_typing_checker_child : (List (Str × Ty)) → (List (Str × Bool)) → (List Int) → Tm → Int → (List Decl) → Option (Ty × Int × (List Int))) (hrec_typing_checker_of : nk rec_typing_checker_of) (hrec_typing_checker_child : nY rec_typing_checker_child) (p0 : List (Str × Ty)) (p1 : List (Str × Bool)) (p2 : List Int) (p3 : Tm) (p4 : List Decl) (r : Ty × Int × (List Int)) (h : jA n rec_typing_checker_of rec_typing_checker_child p0 p1 p2 p3 p4 = some r) : ak Tryz.prog 68 [.ptr 0 0, dW p3, .flist (List.map bD p4)] [.box (.mapr 1 :: (.mapr 2 :: (bR ++ (.psl 3 1 (List.length p2) :: [])))), .mp (dZ p0), .mp (dL p1), .arr 1 (List.map encI p2)] (.tup [aQ r.1, .i r.2.1]) [.box (.mapr 1 :: (.mapr 2 :: (bR ++ (.psl 4 1 (List.length r.2.2) :: [])))), .mp (dZ p0), .mp (dL p1), .dead, .arr 1 (List.map encI r.2.2)] := by
 unfold jA at h
 refine ah true Tryz.func68 rfl (nt Tryz.ntmps68 rfl) fun Q hQ t ht => ?_
 conv at ht => whnf
 subst ht
 refine .q fun K1 k1 => rg 2 ?_
 refine k1 _ _ ?_
 refine .q fun K2 k2 => rg 0 ?_
 refine k2 _ _ ?_
 refine .q fun K3 k3 => .q fun K4 k4 => rg 0 ?_
 refine bO (l := p3.kids) (f := aY) ?_
 refine k4 _ _ ?_
 refine .block ?_
 obtain ⟨o1, ho1, h⟩ := ob h
 have hR1 : ∀ s2 : (List Decl) × (List Ty) × (List Int), o1 = .nx s2 → ∀ t9 h9, Le 4 t9 h9 (.ptr 0 0 :: (.unk :: (.flist (List.map bD s2.1) :: (.unk :: (.ptr 4 0 :: (.unk :: (.ptr 5 0 :: (.unk :: (.slice (List.map aG s2.2.1) (.tip 6 3) :: (u64 (u32 (u16 (u2 (.unk :: [])))))))))))))) [.box (.mapr 1 :: (.mapr 2 :: (bR ++ (.psl 7 1 (List.length s2.2.2) :: [])))), .mp (dZ p0), .mp (dL p1), .dead, .box [.i p3.op, .str p3.name, .i p3.n, .i p3.ty.kind, .str p3.ty.name, aJ p3.ty.kids, dN p3.kids], .box [.i 0, .str ([] : Str), .slice (List.map aG ([] : List Ty)) .nils], .tip (List.length s2.2.1 * 3), .arr 1 (List.map encI s2.2.2)] → K3 t9 h9 := by
  intro s2 ho
  subst ho
  dsimp only [LR.el] at h
  intro t9 h9 hw
  refine k3 _ _ (AW.le hw ?_)
  refine .q fun K5 k5 => .q fun K6 k6 => rg 0 ?_
  refine k6 _ _ ?_
  refine .block ?_
  refine .q fun K7 k7 => rg 0 ?_
  refine k7 _ _ ?_
  refine .aA rfl h (fun hc1 h => ?_) (fun hc1 h => ?_)
  ·refine .q fun K8 k8 => .q fun K9 k9 => rg 1 ?_
   obtain ⟨x1, hx1, h⟩ := ob h
   refine cp (za _ _ _ _ hx1) Ve (.cons (.same _) (.cons (.same _) .nil)) ?_
   refine k9 _ _ ?_
   refine .q fun K10 k10 => rg 0 ?_
   refine k10 _ _ ?_
   refine .aA rfl h (fun hc2 h => ?_) (fun hc2 h => ?_)
   ·refine .q fun K11 k11 => rg 0 ?_
    refine k11 _ _ ?_
    refine .ret ?_
    have e9 := sj h
    subst e9
    refine hQ _ _ _ (bP (u4 (u2 (.ptr 4 0 :: (.i 0 :: (u64 (u32 (u16 (u4 [])))))))) [.box (.mapr 1 :: (.mapr 2 :: (bR ++ (.psl 5 1 (List.length s2.2.2) :: [])))), .mp (dZ p0), .mp (dL p1), .dead, .box [.i x1.1.kind, .str x1.1.name, aJ x1.1.kids], .arr 1 (List.map encI s2.2.2)] (wk [some 0, some 1, some 2, some 3, some 5, some 7] (.u4 (.u2 (.c rfl (.c rfl (.u64 (.u32 (.u16 (.u4 .nil)))))))) (.b rfl (.c rfl (.c rfl (.jX aI (.c rfl .nil)))) (.old .mT (.old .mB (.old (.dead _) (.b rfl (.c rfl (.c rfl (.e aF .nil))) (.old (.arr' aL (bB _)) .nil)))))) rfl) (aX au [0, 1, 2, 3, 5] rfl (.cons (by simp only [bC, ren, bn, aW, cB, bf, aL, aU, bA, aF, aT, aC, aK, aI]; try rfl) (.cons (congrArg AObj.mp (bK (f := aQ) (fun g x => by simp) _ _)) (.cons (congrArg AObj.mp (bK (f := (fun (x : Bool) => .bool x)) (fun g x => rfl) _ _)) (.cons (rfl) (.cons (congrArg (AObj.arr _) (aL _ _)) .nil))))) ?_))
    conv => whnf
    first | rfl | (simp; done) | (simp; rfl) | (simp; constructor <;> rfl)
   refine .skip ?_
   refine k8 _ _ ?_
   refine .q fun K12 k12 => ?_
   obtain ⟨s3, hj1, h⟩ := ob h
   have hR2 : ∀ t9 h9, Le 4 t9 h9 (u4 (u2 (.ptr 4 0 :: (u8 (.unk :: (.ptr 5 0 :: (.bool s3.1 :: (u64 (u32 (u8 (u2 []))))))))))) [.box (.mapr 1 :: (.mapr 2 :: (bR ++ (.psl 6 1 (List.length s2.2.2) :: [])))), .mp (dZ p0), .mp (dL p1), .dead, .box [.i 0, .str ([] : Str), .slice (List.map aG ([] : List Ty)) .nils], .box [.i s3.2.1, .str s3.2.2.1, aJ s3.2.2.2], .arr 1 (List.map encI s2.2.2)] → K12 t9 h9 := by
    intro t9 h9 hw
    refine k12 _ _ (AW.le hw ?_)
    clear hw
    refine .q fun K13 k13 => .q fun K14 k14 => rg 0 ?_
    refine k14 _ _ ?_
    refine .aA rfl h (fun hc3 h => ?_) (fun hc3 h => ?_)
    ·refine .q fun K15 k15 => rg 0 ?_
     refine k15 _ _ ?_
     refine .ret ?_
     have e9 := sj h
     subst e9
     refine hQ _ _ _ (bP (u4 (u2 (.ptr 4 0 :: (.i 6 :: (u64 (u32 (u16 (u4 [])))))))) [.box (.mapr 1 :: (.mapr 2 :: (bR ++ (.psl 5 1 (List.length s2.2.2) :: [])))), .mp (dZ p0), .mp (dL p1), .dead, .box [.i 0, .str ([] : Str), .slice (List.map aG ([] : List Ty)) .nils], .arr 1 (List.map encI s2.2.2)] (wk [some 0, some 1, some 2, some 3, some 4, some 6] (.u4 (.u2 (.c rfl (.c rfl (.u64 (.u32 (.u16 (.u4 .nil)))))))) (.b rfl (.c rfl (.c rfl (.jX aI (.c rfl .nil)))) (.old .mT (.old .mB (.old (.dead _) (.b rfl (.c rfl (.c rfl (.c rfl .nil))) (.old (.arr' aL (bB _)) .nil)))))) rfl) (aX au [0, 1, 2, 3, 5] rfl (.cons (by simp only [bC, ren, bn, aW, cB, bf, aL, aU, bA, aF, aT, aC, aK, aI]; try rfl) (.cons (congrArg AObj.mp (bK (f := aQ) (fun g x => by simp) _ _)) (.cons (congrArg AObj.mp (bK (f := (fun (x : Bool) => .bool x)) (fun g x => rfl) _ _)) (.cons (rfl) (.cons (congrArg (AObj.arr _) (aL _ _)) .nil))))) ?_))
     conv => whnf
     first | rfl | (simp; done) | (simp; rfl) | (simp; constructor <;> rfl)
    refine .skip ?_
    refine k13 _ _ ?_
    refine .q fun K16 k16 => rg 0 ?_
    refine k16 _ _ ?_
    refine .ret ?_
    have e9 := sj h
    subst e9
    refine hQ _ _ _ (bP (u4 (u2 (.ptr 4 0 :: (.i 0 :: (u64 (u32 (u16 (u4 [])))))))) [.box (.mapr 1 :: (.mapr 2 :: (bR ++ (.psl 5 1 (List.length s2.2.2) :: [])))), .mp (dZ p0), .mp (dL p1), .dead, .box [.i s3.2.1, .str s3.2.2.1, aJ s3.2.2.2], .arr 1 (List.map encI s2.2.2)] (wk [some 0, some 1, some 2, some 3, some 4, some 6] (.u4 (.u2 (.c rfl (.c rfl (.u64 (.u32 (.u16 (.u4 .nil)))))))) (.b rfl (.c rfl (.c rfl (.jX aI (.c rfl .nil)))) (.old .mT (.old .mB (.old (.dead _) (.b rfl (.c rfl (.c rfl (.e aF .nil))) (.old (.arr' aL (bB _)) .nil)))))) rfl) (aX au [0, 1, 2, 3, 5] rfl (.cons (by simp only [bC, ren, bn, aW, cB, bf, aL, aU, bA, aF, aT, aC, aK, aI]; try rfl) (.cons (congrArg AObj.mp (bK (f := aQ) (fun g x => by simp) _ _)) (.cons (congrArg AObj.mp (bK (f := (fun (x : Bool) => .bool x)) (fun g x => rfl) _ _)) (.cons (rfl) (.cons (congrArg (AObj.arr _) (aL _ _)) .nil))))) ?_))
    conv => whnf
    first | rfl | (simp; done) | (simp; rfl) | (simp; constructor <;> rfl)
   refine rg 1 ?_
   refine Ie (m := p0) (f := aQ) hj1 (fun x2 hx2 hj1 => ?_) (fun hx2 hj1 => ?_)
   ·refine ⟨rfl, ?_⟩
    cases hj1
    exact hR2 _ _ (wk [some 0, some 1, some 2, some 3, some 5, some 9, some 7] (.u4 (.u2 (.c rfl (.u8 (.u (.c rfl (.c rfl (.u64 (.u32 (.u8 (.u2 .nil))))))))))) (.b rfl (.c rfl (.c rfl (.jX aI (.c rfl .nil)))) (.old .mT (.old .mB (.old (.dead _) (.b rfl (.c rfl (.c rfl (.c rfl .nil))) (.b rfl (.c rfl (.c rfl (.e aF .nil))) (.old (.arr' aL (bB _)) .nil))))))) rfl)
   refine ⟨rfl, ?_⟩
   cases hj1
   exact hR2 _ _ (wk [some 0, some 1, some 2, some 3, some 5, some 9, some 7] (.u4 (.u2 (.c rfl (.u8 (.u (.c rfl (.c rfl (.u64 (.u32 (.u8 (.u2 .nil))))))))))) (.b rfl (.c rfl (.c rfl (.jX aI (.c rfl .nil)))) (.old .mT (.old .mB (.old (.dead _) (.b rfl (.c rfl (.c rfl (.c rfl .nil))) (.b rfl (.c rfl (.c rfl (.cons (.share rfl) .nil))) (.old (.arr' aL (bB _)) .nil))))))) rfl)
  refine .q fun K17 k17 => rg 0 ?_
  refine k17 _ _ ?_
  refine .aA rfl h (fun hc4 h => ?_) (fun hc4 h => ?_)
  ·refine .q fun K18 k18 => .q fun K19 k19 => rg 0 ?_
   obtain ⟨x3, hx3, h⟩ := ob h
   refine bI [0, 1, 2, 7] [] [.ptr 0 0, aQ p3.ty] [.ptr 0 0, aQ p3.ty] (yG _ _ _ _ _ _ hx3) Ub rfl (.cons (by simp only [bC, ren, bn, aW, cB, bf, aL, aU, bA, aF, aT, aC, aK, aI]; try rfl) (.cons (congrArg AObj.mp (bK (f := aQ) (fun g x => by simp) _ _)) (.cons (congrArg AObj.mp (bK (f := (fun (x : Bool) => .bool x)) (fun g x => rfl) _ _)) (.cons (congrArg (AObj.arr _) (aL _ _)) .nil)))) (by simp; try decide) (.cons (.same _) (.cons (.same _) .nil)) (rn := .bool x3) (rfl) (Hn := [.box (.mapr 1 :: (.mapr 2 :: (bR ++ (.psl 7 1 (List.length s2.2.2) :: [])))), .mp (dZ p0), .mp (dL p1), .arr 1 (List.map encI s2.2.2)]) ((aZ (by simp only [bC, ren, bn, aW, cB, bf, aL, aU, bA, aF, aT, aC, aK, aI]; try rfl) (aZ (congrArg AObj.mp (bK (f := aQ) (fun g x => by simp) _ _)) (aZ (congrArg AObj.mp (bK (f := (fun (x : Bool) => .bool x)) (fun g x => rfl) _ _)) (aZ (congrArg (AObj.arr _) (aL _ _)) rfl))))) ?_
   refine k19 _ _ ?_
   refine .aA rfl h (fun hc5 h => ?_) (fun hc5 h => ?_)
   ·refine .q fun K20 k20 => rg 0 ?_
    refine k20 _ _ ?_
    refine .ret ?_
    have e9 := sj h
    subst e9
    refine hQ _ _ _ (bP (u4 (u2 (.ptr 4 0 :: (.i 6 :: (u64 (u32 (u16 (u4 [])))))))) [.box (.mapr 1 :: (.mapr 2 :: (bR ++ (.psl 5 1 (List.length s2.2.2) :: [])))), .mp (dZ p0), .mp (dL p1), .dead, .box [.i 0, .str ([] : Str), .slice (List.map aG ([] : List Ty)) .nils], .arr 1 (List.map encI s2.2.2)] (wk [some 0, some 1, some 2, some 3, some 5, some 7] (.u4 (.u2 (.c rfl (.c rfl (.u64 (.u32 (.u16 (.u4 .nil)))))))) (.b rfl (.c rfl (.c rfl (.jX aI (.c rfl .nil)))) (.old .mT (.old .mB (.old (.dead _) (.b rfl (.c rfl (.c rfl (.c rfl .nil))) (.old (.arr' aL (bB _)) .nil)))))) rfl) (aX au [0, 1, 2, 3, 5] rfl (.cons (by simp only [bC, ren, bn, aW, cB, bf, aL, aU, bA, aF, aT, aC, aK, aI]; try rfl) (.cons (congrArg AObj.mp (bK (f := aQ) (fun g x => by simp) _ _)) (.cons (congrArg AObj.mp (bK (f := (fun (x : Bool) => .bool x)) (fun g x => rfl) _ _)) (.cons (rfl) (.cons (congrArg (AObj.arr _) (aL _ _)) .nil))))) ?_))
    conv => whnf
    first | rfl | (simp; done) | (simp; rfl) | (simp; constructor <;> rfl)
   refine .skip ?_
   refine k18 _ _ ?_
   refine .q fun K21 k21 => rg 0 ?_
   refine cp (fC 0 p3.ty _ rfl) oD (.cons (.same _) .nil) ?_
   obtain ⟨x4, hx4, h⟩ := ob h
   refine cp (wu _ _ _ hx4) NR (.cons (.same _) .nil) ?_
   refine k21 _ _ ?_
   refine .ret ?_
   have e9 := sj h
   subst e9
   refine hQ _ _ _ (bP (u4 (u2 (.ptr 4 0 :: (.i x4.2 :: (u64 (u32 (u16 (u4 [])))))))) [.box (.mapr 1 :: (.mapr 2 :: (bR ++ (.psl 5 1 (List.length s2.2.2) :: [])))), .mp (dZ p0), .mp (dL p1), .dead, .box [.i x4.1.kind, .str x4.1.name, aJ x4.1.kids], .arr 1 (List.map encI s2.2.2)] (wk [some 0, some 1, some 2, some 3, some 5, some 7] (.u4 (.u2 (.c rfl (.c rfl (.u64 (.u32 (.u16 (.u4 .nil)))))))) (.b rfl (.c rfl (.c rfl (.jX aI (.c rfl .nil)))) (.old .mT (.old .mB (.old (.dead _) (.b rfl (.c rfl (.c rfl (.e aF .nil))) (.old (.arr' aL (bB _)) .nil)))))) rfl) (aX au [0, 1, 2, 3, 5] rfl (.cons (by simp only [bC, ren, bn, aW, cB, bf, aL, aU, bA, aF, aT, aC, aK, aI]; try rfl) (.cons (congrArg AObj.mp (bK (f := aQ) (fun g x => by simp) _ _)) (.cons (congrArg AObj.mp (bK (f := (fun (x : Bool) => .bool x)) (fun g x => rfl) _ _)) (.cons (rfl) (.cons (congrArg (AObj.arr _) (aL _ _)) .nil))))) ?_))
   conv => whnf
   first | rfl | (simp; done) | (simp; rfl) | (simp; constructor <;> rfl)
  refine .skip ?_
  refine k5 _ _ ?_
  refine .q fun K22 k22 => ?_
  obtain ⟨s4, hj2, h⟩ := ob h
  have hR3 : ∀ t9 h9, Le 4 t9 h9 (u4 (u2 (.ptr 4 0 :: (u8 (u2 (.unk :: (.ptr 5 0 :: (.bool s4.1 :: (u64 (u32 (u8 []))))))))))) [.box (.mapr 1 :: (.mapr 2 :: (bR ++ (.psl 6 1 (List.length s2.2.2) :: [])))), .mp (dZ p0), .mp (dL p1), .dead, .box [.i 0, .str ([] : Str), .slice (List.map aG ([] : List Ty)) .nils], .box [.i s4.2.1, .str s4.2.2.1, aJ s4.2.2.2], .arr 1 (List.map encI s2.2.2)] → K22 t9 h9 := by
   intro t9 h9 hw
   refine k22 _ _ (AW.le hw ?_)
   clear hw
   refine .q fun K23 k23 => .q fun K24 k24 => rg 0 ?_
   refine k24 _ _ ?_
   refine .aA rfl h (fun hc6 h => ?_) (fun hc6 h => ?_)
   ·refine .q fun K25 k25 => rg 0 ?_
    refine k25 _ _ ?_
    refine .ret ?_
    have e9 := sj h
    subst e9
    refine hQ _ _ _ (bP (u4 (u2 (.ptr 4 0 :: (.i 7 :: (u64 (u32 (u16 (u4 [])))))))) [.box (.mapr 1 :: (.mapr 2 :: (bR ++ (.psl 5 1 (List.length s2.2.2) :: [])))), .mp (dZ p0), .mp (dL p1), .dead, .box [.i 0, .str ([] : Str), .slice (List.map aG ([] : List Ty)) .nils], .arr 1 (List.map encI s2.2.2)] (wk [some 0, some 1, some 2, some 3, some 4, some 6] (.u4 (.u2 (.c rfl (.c rfl (.u64 (.u32 (.u16 (.u4 .nil)))))))) (.b rfl (.c rfl (.c rfl (.jX aI (.c rfl .nil)))) (.old .mT (.old .mB (.old (.dead _) (.b rfl (.c rfl (.c rfl (.c rfl .nil))) (.old (.arr' aL (bB _)) .nil)))))) rfl) (aX au [0, 1, 2, 3, 5] rfl (.cons (by simp only [bC, ren, bn, aW, cB, bf, aL, aU, bA, aF, aT, aC, aK, aI]; try rfl) (.cons (congrArg AObj.mp (bK (f := aQ) (fun g x => by simp) _ _)) (.cons (congrArg AObj.mp (bK (f := (fun (x : Bool) => .bool x)) (fun g x => rfl) _ _)) (.cons (rfl) (.cons (congrArg (AObj.arr _) (aL _ _)) .nil))))) ?_))
    conv => whnf
    first | rfl | (simp; done) | (simp; rfl) | (simp; constructor <;> rfl)
   refine .skip ?_
   refine k23 _ _ ?_
   refine .q fun K26 k26 => rg 0 ?_
   obtain ⟨x5, hx5, h⟩ := ob h
   refine cp (wu _ _ _ hx5) NR (.cons (.same _) .nil) ?_
   refine k26 _ _ ?_
   refine .ret ?_
   have e9 := sj h
   subst e9
   refine hQ _ _ _ (bP (u4 (u2 (.ptr 4 0 :: (.i x5.2 :: (u64 (u32 (u16 (u4 [])))))))) [.box (.mapr 1 :: (.mapr 2 :: (bR ++ (.psl 5 1 (List.length s2.2.2) :: [])))), .mp (dZ p0), .mp (dL p1), .dead, .box [.i x5.1.kind, .str x5.1.name, aJ x5.1.kids], .arr 1 (List.map encI s2.2.2)] (wk [some 0, some 1, some 2, some 3, some 4, some 6] (.u4 (.u2 (.c rfl (.c rfl (.u64 (.u32 (.u16 (.u4 .nil)))))))) (.b rfl (.c rfl (.c rfl (.jX aI (.c rfl .nil)))) (.old .mT (.old .mB (.old (.dead _) (.b rfl (.c rfl (.c rfl (.e aF .nil))) (.old (.arr' aL (bB _)) .nil)))))) rfl) (aX au [0, 1, 2, 3, 5] rfl (.cons (by simp only [bC, ren, bn, aW, cB, bf, aL, aU, bA, aF, aT, aC, aK, aI]; try rfl) (.cons (congrArg AObj.mp (bK (f := aQ) (fun g x => by simp) _ _)) (.cons (congrArg AObj.mp (bK (f := (fun (x : Bool) => .bool x)) (fun g x => rfl) _ _)) (.cons (rfl) (.cons (congrArg (AObj.arr _) (aL _ _)) .nil))))) ?_))
   conv => whnf
   first | rfl | (simp; done) | (simp; rfl) | (simp; constructor <;> rfl)
  refine rg 1 ?_
  rcases bg hj2 with ⟨hc7, hj2⟩ | ⟨hc7, hj2⟩
  ·refine bS hc7 (by decide) ?_
   exact absurd hj2 (by simp)
  rcases bg hj2 with ⟨hc8, hj2⟩ | ⟨hc8, hj2⟩
  ·refine bS hc8 (by decide) ?_
   refine cp (oQ 0 s2.2.1 2 ([] : Str) ([]) _ rfl) Iq (.cons (.share _ _) (.cons (.same _) .nil)) ?_
   refine ⟨rfl, ?_⟩
   cases hj2
   exact bX (hR3 _ _)
  rcases bg hj2 with ⟨hc9, hj2⟩ | ⟨hc9, hj2⟩
  ·refine bS hc9 (by decide) ?_
   refine cp (oQ 0 s2.2.1 2 ([] : Str) ([]) _ rfl) Iq (.cons (.share _ _) (.cons (.same _) .nil)) ?_
   refine ⟨rfl, ?_⟩
   cases hj2
   exact bX (hR3 _ _)
  rcases bg hj2 with ⟨hc10, hj2⟩ | ⟨hc10, hj2⟩
  ·refine bS hc10 (by decide) ?_
   obtain ⟨x6, hx6, hj2⟩ := ob hj2
   refine cp (bZ _ _ _ _ _ _ _ hx6) kG (.cons (.share _ _) (.cons (.same _) (.cons (.same _) .nil))) ?_
   refine ⟨rfl, ?_⟩
   cases hj2
   exact bX (hR3 _ _)
  rcases bg hj2 with ⟨hc11, hj2⟩ | ⟨hc11, hj2⟩
  ·refine bS hc11 (by decide) ?_
   obtain ⟨x7, hx7, hj2⟩ := ob hj2
   refine cp (bZ _ _ _ _ _ _ _ hx7) kG (.cons (.share _ _) (.cons (.same _) (.cons (.same _) .nil))) ?_
   refine ⟨rfl, ?_⟩
   cases hj2
   exact bX (hR3 _ _)
  rcases bg hj2 with ⟨hc12, hj2⟩ | ⟨hc12, hj2⟩
  ·refine bS hc12 (by decide) ?_
   obtain ⟨x8, hx8, hj2⟩ := ob hj2
   refine cp (bZ _ _ _ _ _ _ _ hx8) kG (.cons (.share _ _) (.cons (.same _) (.cons (.same _) .nil))) ?_
   refine ⟨rfl, ?_⟩
   cases hj2
   exact bX (hR3 _ _)
  rcases bg hj2 with ⟨hc13, hj2⟩ | ⟨hc13, hj2⟩
  ·refine bS hc13 (by decide) ?_
   obtain ⟨x9, hx9, hj2⟩ := ob hj2
   refine cp (bZ _ _ _ _ _ _ _ hx9) kG (.cons (.share _ _) (.cons (.same _) (.cons (.same _) .nil))) ?_
   refine ⟨rfl, ?_⟩
   cases hj2
   exact bX (hR3 _ _)
  rcases bg hj2 with ⟨hc14, hj2⟩ | ⟨hc14, hj2⟩
  ·refine bS hc14 (by decide) ?_
   obtain ⟨x10, hx10, hj2⟩ := ob hj2
   refine cp (bZ _ _ _ _ _ _ _ hx10) kG (.cons (.share _ _) (.cons (.same _) (.cons (.same _) .nil))) ?_
   refine ⟨rfl, ?_⟩
   cases hj2
   exact bX (hR3 _ _)
  rcases bg hj2 with ⟨hc15, hj2⟩ | ⟨hc15, hj2⟩
  ·refine bS hc15 (by decide) ?_
   obtain ⟨x11, hx11, hj2⟩ := ob hj2
   refine cp (vJ _ _ _ hx11) Iu (.cons (.share _ _) (.cons (.same _) .nil)) ?_
   refine ⟨rfl, ?_⟩
   cases hj2
   exact bX (hR3 _ _)
  rcases bg hj2 with ⟨hc16, hj2⟩ | ⟨hc16, hj2⟩
  ·refine bS hc16 (by decide) ?_
   obtain ⟨x12, hx12, hj2⟩ := ob hj2
   refine cp (vJ _ _ _ hx12) Iu (.cons (.share _ _) (.cons (.same _) .nil)) ?_
   refine ⟨rfl, ?_⟩
   cases hj2
   exact bX (hR3 _ _)
  rcases bg hj2 with ⟨hc17, hj2⟩ | ⟨hc17, hj2⟩
  ·refine bS hc17 (by decide) ?_
   obtain ⟨x13, hx13, hj2⟩ := ob hj2
   refine cp (xM _ _ _ hx13) NZ (.cons (.share _ _) .nil) ?_
   refine ⟨rfl, ?_⟩
   cases hj2
   exact bX (hR3 _ _)
  rcases bg hj2 with ⟨hc18, hj2⟩ | ⟨hc18, hj2⟩
  ·refine bS hc18 (by decide) ?_
   obtain ⟨x14, hx14, hj2⟩ := ob hj2
   refine cp (xM _ _ _ hx14) NZ (.cons (.share _ _) .nil) ?_
   refine ⟨rfl, ?_⟩
   cases hj2
   exact bX (hR3 _ _)
  rcases bg hj2 with ⟨hc19, hj2⟩ | ⟨hc19, hj2⟩
  ·refine bS hc19 (by decide) ?_
   obtain ⟨x15, hx15, hj2⟩ := ob hj2
   refine cp (bZ _ _ _ _ _ _ _ hx15) kG (.cons (.share _ _) (.cons (.same _) (.cons (.same _) .nil))) ?_
   refine ⟨rfl, ?_⟩
   cases hj2
   exact bX (hR3 _ _)
  rcases bg hj2 with ⟨hc20, hj2⟩ | ⟨hc20, hj2⟩
  ·refine bS hc20 (by decide) ?_
   obtain ⟨x16, hx16, hj2⟩ := ob hj2
   refine cp (bZ _ _ _ _ _ _ _ hx16) kG (.cons (.share _ _) (.cons (.same _) (.cons (.same _) .nil))) ?_
   refine ⟨rfl, ?_⟩
   cases hj2
   exact bX (hR3 _ _)
  rcases bg hj2 with ⟨hc21, hj2⟩ | ⟨hc21, hj2⟩
  ·refine bS hc21 (by decide) ?_
   obtain ⟨x17, hx17, hj2⟩ := ob hj2
   refine cp (bZ _ _ _ _ _ _ _ hx17) kG (.cons (.share _ _) (.cons (.same _) (.cons (.same _) .nil))) ?_
   refine ⟨rfl, ?_⟩
   cases hj2
   exact bX (hR3 _ _)
  rcases bg hj2 with ⟨hc22, hj2⟩ | ⟨hc22, hj2⟩
  ·refine bS hc22 (by decide) ?_
   obtain ⟨x18, hx18, hj2⟩ := ob hj2
   refine cp (bZ _ _ _ _ _ _ _ hx18) kG (.cons (.share _ _) (.cons (.same _) (.cons (.same _) .nil))) ?_
   refine ⟨rfl, ?_⟩
   cases hj2
   exact bX (hR3 _ _)
  rcases bg hj2 with ⟨hc23, hj2⟩ | ⟨hc23, hj2⟩
  ·refine bS hc23 (by decide) ?_
   obtain ⟨x19, hx19, hj2⟩ := ob hj2
   refine cp (xu _ _ _ hx19) Ob (.cons (.share _ _) .nil) ?_
   refine ⟨rfl, ?_⟩
   cases hj2
   exact bX (hR3 _ _)
  rcases bg hj2 with ⟨hc24, hj2⟩ | ⟨hc24, hj2⟩
  ·refine bS hc24 (by decide) ?_
   obtain ⟨x20, hx20, hj2⟩ := ob hj2
   refine cp (xu _ _ _ hx20) Ob (.cons (.share _ _) .nil) ?_
   refine ⟨rfl, ?_⟩
   cases hj2
   exact bX (hR3 _ _)
  rcases bg hj2 with ⟨hc25, hj2⟩ | ⟨hc25, hj2⟩
  ·refine bS hc25 (by decide) ?_
   obtain ⟨x21, hx21, hj2⟩ := ob hj2
   refine cp (Dw _ _ _ hx21) Ez (.cons (.share _ _) (.cons (.same _) .nil)) ?_
   refine ⟨rfl, ?_⟩
   cases hj2
   exact bX (hR3 _ _)
  rcases bg hj2 with ⟨hc26, hj2⟩ | ⟨hc26, hj2⟩
  ·refine bS hc26 (by decide) ?_
   refine cp (oQ 0 s2.2.1 1 ([] : Str) ([]) _ rfl) Iq (.cons (.share _ _) (.cons (.same _) .nil)) ?_
   refine ⟨rfl, ?_⟩
   cases hj2
   exact bX (hR3 _ _)
  rcases bg hj2 with ⟨hc27, hj2⟩ | ⟨hc27, hj2⟩
  ·refine bS hc27 (by decide) ?_
   exact absurd hj2 (by simp)
  rcases bg hj2 with ⟨hc28, hj2⟩ | ⟨hc28, hj2⟩
  ·refine bS hc28 (by decide) ?_
   obtain ⟨x22, hx22, hj2⟩ := ob hj2
   refine cp (bZ _ _ _ _ _ _ _ hx22) kG (.cons (.share _ _) (.cons (.same _) (.cons (.same _) .nil))) ?_
   refine ⟨rfl, ?_⟩
   cases hj2
   exact bX (hR3 _ _)
  rcases bg hj2 with ⟨hc29, hj2⟩ | ⟨hc29, hj2⟩
  ·refine bS hc29 (by decide) ?_
   obtain ⟨x23, hx23, hj2⟩ := ob hj2
   refine cp (bZ _ _ _ _ _ _ _ hx23) kG (.cons (.share _ _) (.cons (.same _) (.cons (.same _) .nil))) ?_
   refine ⟨rfl, ?_⟩
   cases hj2
   exact bX (hR3 _ _)
  rcases bg hj2 with ⟨hc30, hj2⟩ | ⟨hc30, hj2⟩
  ·refine bS hc30 (by decide) ?_
   obtain ⟨x24, hx24, hj2⟩ := ob hj2
   refine cp (bZ _ _ _ _ _ _ _ hx24) kG (.cons (.share _ _) (.cons (.same _) (.cons (.same _) .nil))) ?_
   refine ⟨rfl, ?_⟩
   cases hj2
   exact bX (hR3 _ _)
  rcases bg hj2 with ⟨hc31, hj2⟩ | ⟨hc31, hj2⟩
  ·refine bS hc31 (by decide) ?_
   obtain ⟨x25, hx25, hj2⟩ := ob hj2
   refine cp (bZ _ _ _ _ _ _ _ hx25) kG (.cons (.share _ _) (.cons (.same _) (.cons (.same _) .nil))) ?_
   refine ⟨rfl, ?_⟩
   cases hj2
   exact bX (hR3 _ _)
  rcases bg hj2 with ⟨hc32, hj2⟩ | ⟨hc32, hj2⟩
  ·refine bS hc32 (by decide) ?_
   obtain ⟨x26, hx26, hj2⟩ := ob hj2
   refine cp (bZ _ _ _ _ _ _ _ hx26) kG (.cons (.share _ _) (.cons (.same _) (.cons (.same _) .nil))) ?_
   refine ⟨rfl, ?_⟩
   cases hj2
   exact bX (hR3 _ _)
  rcases bg hj2 with ⟨hc33, hj2⟩ | ⟨hc33, hj2⟩
  ·refine bS hc33 (by decide) ?_
   obtain ⟨x27, hx27, hj2⟩ := ob hj2
   refine cp (bZ _ _ _ _ _ _ _ hx27) kG (.cons (.share _ _) (.cons (.same _) (.cons (.same _) .nil))) ?_
   refine ⟨rfl, ?_⟩
   cases hj2
   exact bX (hR3 _ _)
  rcases bg hj2 with ⟨hc34, hj2⟩ | ⟨hc34, hj2⟩
  ·refine bS hc34 (by decide) ?_
   obtain ⟨x28, hx28, hj2⟩ := ob hj2
   refine cp (FC _ _ _ hx28) Us (.cons (.share _ _) .nil) ?_
   refine ⟨rfl, ?_⟩
   cases hj2
   exact bX (hR3 _ _)
  rcases bg hj2 with ⟨hc35, hj2⟩ | ⟨hc35, hj2⟩
  ·refine bS hc35 (by decide) ?_
   obtain ⟨x29, hx29, hj2⟩ := ob hj2
   refine cp (FH _ _ _ hx29) Ti (.cons (.share _ _) .nil) ?_
   refine ⟨rfl, ?_⟩
   cases hj2
   exact bX (hR3 _ _)
  rcases bg hj2 with ⟨hc36, hj2⟩ | ⟨hc36, hj2⟩
  ·refine bS hc36 (by decide) ?_
   exact absurd hj2 (by simp)
  rcases bg hj2 with ⟨hc37, hj2⟩ | ⟨hc37, hj2⟩
  ·refine bS hc37 (by decide) ?_
   obtain ⟨x30, hx30, hj2⟩ := ob hj2
   refine cp (bZ _ _ _ _ _ _ _ hx30) kG (.cons (.share _ _) (.cons (.same _) (.cons (.same _) .nil))) ?_
   refine ⟨rfl, ?_⟩
   cases hj2
   exact bX (hR3 _ _)
  rcases bg hj2 with ⟨hc38, hj2⟩ | ⟨hc38, hj2⟩
  ·refine bS hc38 (by decide) ?_
   obtain ⟨x31, hx31, hj2⟩ := ob hj2
   refine cp (qm _ _ _ hx31) Ez (.cons (.share _ _) (.cons (.same _) .nil)) ?_
   refine ⟨rfl, ?_⟩
   cases hj2
   exact bX (hR3 _ _)
  rcases bg hj2 with ⟨hc39, hj2⟩ | ⟨hc39, hj2⟩
  ·refine bS hc39 (by decide) ?_
   obtain ⟨x32, hx32, hj2⟩ := ob hj2
   refine cp (qm _ _ _ hx32) Ez (.cons (.share _ _) (.cons (.same _) .nil)) ?_
   refine ⟨rfl, ?_⟩
   cases hj2
   exact bX (hR3 _ _)
  rcases bg hj2 with ⟨hc40, hj2⟩ | ⟨hc40, hj2⟩
  ·refine bS hc40 (by decide) ?_
   obtain ⟨x33, hx33, hj2⟩ := ob hj2
   refine cp (qm _ _ _ hx33) Ez (.cons (.share _ _) (.cons (.same _) .nil)) ?_
   refine ⟨rfl, ?_⟩
   cases hj2
   exact bX (hR3 _ _)
  rcases bg hj2 with ⟨hc41, hj2⟩ | ⟨hc41, hj2⟩
  ·refine bS hc41 (by decide) ?_
   obtain ⟨x34, hx34, hj2⟩ := ob hj2
   refine cp (EL _ _ _ hx34) wS (.cons (.share _ _) (.cons (.same _) .nil)) ?_
   refine ⟨rfl, ?_⟩
   cases hj2
   exact bX (hR3 _ _)
  rcases bg hj2 with ⟨hc42, hj2⟩ | ⟨hc42, hj2⟩
  ·refine bS hc42 (by decide) ?_
   obtain ⟨x35, hx35, hj2⟩ := ob hj2
   refine cp (xJ _ _ _ hx35) qN (.cons (.share _ _) (.cons (.same _) .nil)) ?_
   refine ⟨rfl, ?_⟩
   cases hj2
   exact bX (hR3 _ _)
  rcases bg hj2 with ⟨hc43, hj2⟩ | ⟨hc43, hj2⟩
  ·refine bS hc43 (by decide) ?_
   obtain ⟨x36, hx36, hj2⟩ := ob hj2
   refine cp (yc _ _ _ hx36) qN (.cons (.share _ _) (.cons (.same _) .nil)) ?_
   refine ⟨rfl, ?_⟩
   cases hj2
   exact bX (hR3 _ _)
  rcases bg hj2 with ⟨hc44, hj2⟩ | ⟨hc44, hj2⟩
  ·refine bS hc44 (by decide) ?_
   obtain ⟨x37, hx37, hj2⟩ := ob hj2
   refine cp (yE _ _ _ hx37) NH (.cons (.share _ _) .nil) ?_
   refine ⟨rfl, ?_⟩
   cases hj2
   exact bX (hR3 _ _)
  rcases bg hj2 with ⟨hc45, hj2⟩ | ⟨hc45, hj2⟩
  ·refine bS hc45 (by decide) ?_
   obtain ⟨x38, hx38, hj2⟩ := ob hj2
   refine cp (yE _ _ _ hx38) NH (.cons (.share _ _) .nil) ?_
   refine ⟨rfl, ?_⟩
   cases hj2
   exact bX (hR3 _ _)
  rcases bg hj2 with ⟨hc46, hj2⟩ | ⟨hc46, hj2⟩
  ·refine bS hc46 (by decide) ?_
   obtain ⟨x39, hx39, hj2⟩ := ob hj2
   refine cp (qp _ _ _ hx39) qN (.cons (.share _ _) (.cons (.same _) .nil)) ?_
   refine ⟨rfl, ?_⟩
   cases hj2
   exact bX (hR3 _ _)
  rcases bg hj2 with ⟨hc47, hj2⟩ | ⟨hc47, hj2⟩
  ·refine bS hc47 (by decide) ?_
   obtain ⟨x40, hx40, hj2⟩ := ob hj2
   refine cp (qp _ _ _ hx40) qN (.cons (.share _ _) (.cons (.same _) .nil)) ?_
   refine ⟨rfl, ?_⟩
   cases hj2
   exact bX (hR3 _ _)
  rcases bg hj2 with ⟨hc48, hj2⟩ | ⟨hc48, hj2⟩
  ·refine bS hc48 (by decide) ?_
   obtain ⟨x41, hx41, hj2⟩ := ob hj2
   refine cp (mE _ _ _ hx41) wS (.cons (.share _ _) (.cons (.same _) .nil)) ?_
   refine ⟨rfl, ?_⟩
   cases hj2
   exact bX (hR3 _ _)
  rcases bg hj2 with ⟨hc49, hj2⟩ | ⟨hc49, hj2⟩
  ·refine bS hc49 (by decide) ?_
   obtain ⟨x42, hx42, hj2⟩ := ob hj2
   refine cp (mE _ _ _ hx42) wS (.cons (.share _ _) (.cons (.same _) .nil)) ?_
   refine ⟨rfl, ?_⟩
   cases hj2
   exact bX (hR3 _ _)
  rcases bg hj2 with ⟨hc50, hj2⟩ | ⟨hc50, hj2⟩
  ·refine bS hc50 (by decide) ?_
   obtain ⟨x43, hx43, hj2⟩ := ob hj2
   refine cp (mE _ _ _ hx43) wS (.cons (.share _ _) (.cons (.same _) .nil)) ?_
   refine ⟨rfl, ?_⟩
   cases hj2
   exact bX (hR3 _ _)
  rcases bg hj2 with ⟨hc51, hj2⟩ | ⟨hc51, hj2⟩
  ·refine bS hc51 (by decide) ?_
   obtain ⟨x44, hx44, hj2⟩ := ob hj2
   refine cp (mE _ _ _ hx44) wS (.cons (.share _ _) (.cons (.same _) .nil)) ?_
   refine ⟨rfl, ?_⟩
   cases hj2
   exact bX (hR3 _ _)
  rcases bg hj2 with ⟨hc52, hj2⟩ | ⟨hc52, hj2⟩
  ·refine bS hc52 (by decide) ?_
   obtain ⟨x45, hx45, hj2⟩ := ob hj2
   refine cp (mE _ _ _ hx45) wS (.cons (.share _ _) (.cons (.same _) .nil)) ?_
   refine ⟨rfl, ?_⟩
   cases hj2
   exact bX (hR3 _ _)
  rcases bg hj2 with ⟨hc53, hj2⟩ | ⟨hc53, hj2⟩
  ·refine bS hc53 (by decide) ?_
   obtain ⟨x46, hx46, hj2⟩ := ob hj2
   refine cp (CF _ _ _ hx46) Et (.cons (.share _ _) (.cons (.same _) .nil)) ?_
   refine ⟨rfl, ?_⟩
   cases hj2
   exact bX (hR3 _ _)
  rcases bg hj2 with ⟨hc54, hj2⟩ | ⟨hc54, hj2⟩
  ·refine bS hc54 (by decide) ?_
   obtain ⟨x47, hx47, hj2⟩ := ob hj2
   refine cp (CG _ _ _ hx47) Et (.cons (.share _ _) (.cons (.same _) .nil)) ?_
   refine ⟨rfl, ?_⟩
   cases hj2
   exact bX (hR3 _ _)
  rcases bg hj2 with ⟨hc55, hj2⟩ | ⟨hc55, hj2⟩
  ·refine bS hc55 (by decide) ?_
   obtain ⟨x48, hx48, hj2⟩ := ob hj2
   refine cp (uH _ _ _ hx48) Et (.cons (.share _ _) (.cons (.same _) .nil)) ?_
   refine ⟨rfl, ?_⟩
   cases hj2
   exact bX (hR3 _ _)
  rcases bg hj2 with ⟨hc56, hj2⟩ | ⟨hc56, hj2⟩
  ·refine bS hc56 (by decide) ?_
   obtain ⟨x49, hx49, hj2⟩ := ob hj2
   refine cp (uH _ _ _ hx49) Et (.cons (.share _ _) (.cons (.same _) .nil)) ?_
   refine ⟨rfl, ?_⟩
   cases hj2
   exact bX (hR3 _ _)
  rcases bg hj2 with ⟨hc57, hj2⟩ | ⟨hc57, hj2⟩
  ·refine bS hc57 (by decide) ?_
   obtain ⟨x50, hx50, hj2⟩ := ob hj2
   refine cp (yD _ _ _ hx50) qN (.cons (.share _ _) (.cons (.same _) .nil)) ?_
   refine ⟨rfl, ?_⟩
   cases hj2
   exact bX (hR3 _ _)
  rcases bg hj2 with ⟨hc58, hj2⟩ | ⟨hc58, hj2⟩
  ·refine bS hc58 (by decide) ?_
   obtain ⟨x51, hx51, hj2⟩ := ob hj2
   refine cp (xV _ _ _ hx51) qN (.cons (.share _ _) (.cons (.same _) .nil)) ?_
   refine ⟨rfl, ?_⟩
   cases hj2
   exact bX (hR3 _ _)
  rcases bg hj2 with ⟨hc59, hj2⟩ | ⟨hc59, hj2⟩
  ·refine bS hc59 (by decide) ?_
   obtain ⟨x52, hx52, hj2⟩ := ob hj2
   refine cp (xO _ _ _ hx52) qN (.cons (.share _ _) (.cons (.same _) .nil)) ?_
   refine ⟨rfl, ?_⟩
   cases hj2
   exact bX (hR3 _ _)
  rcases bg hj2 with ⟨hc60, hj2⟩ | ⟨hc60, hj2⟩
  ·refine bS hc60 (by decide) ?_
   obtain ⟨x53, hx53, hj2⟩ := ob hj2
   refine cp (yA _ _ _ hx53) qN (.cons (.share _ _) (.cons (.same _) .nil)) ?_
   refine ⟨rfl, ?_⟩
   cases hj2
   exact bX (hR3 _ _)
  rcases bg hj2 with ⟨hc61, hj2⟩ | ⟨hc61, hj2⟩
  ·refine bS hc61 (by decide) ?_
   obtain ⟨x54, hx54, hj2⟩ := ob hj2
   refine cp (xH _ _ _ hx54) qN (.cons (.share _ _) (.cons (.same _) .nil)) ?_
   refine ⟨rfl, ?_⟩
   cases hj2
   exact bX (hR3 _ _)
  rcases bg hj2 with ⟨hc62, hj2⟩ | ⟨hc62, hj2⟩
  ·refine bS hc62 (by decide) ?_
   obtain ⟨x55, hx55, hj2⟩ := ob hj2
   refine cp (DZ _ _ _ hx55) Iu (.cons (.share _ _) (.cons (.same _) .nil)) ?_
   refine ⟨rfl, ?_⟩
   cases hj2
   exact bX (hR3 _ _)
  rcases bg hj2 with ⟨hc63, hj2⟩ | ⟨hc63, hj2⟩
  ·refine bS hc63 (by decide) ?_
   obtain ⟨x56, hx56, hj2⟩ := ob hj2
   refine cp (ET _ _ _ hx56) U2 (.cons (.share _ _) .nil) ?_
   refine ⟨rfl, ?_⟩
   cases hj2
   exact bX (hR3 _ _)
  exact absurd hj2 (by simp)
 refine .loopS (iY n rec_typing_checker_of rec_typing_checker_child p0 p1 p3) (fun (s1 : (List Decl) × (List Ty) × Int × (List Int)) => (.ptr 0 0 :: (.unk :: (.flist (List.map bD s1.1) :: (.unk :: (.ptr 4 0 :: (.unk :: (.ptr 5 0 :: (.unk :: (.slice (List.map aG s1.2.1) (.tip 6 3) :: (u8 (u4 (.unk :: (.i (p3.kids.length : Int) :: (.i s1.2.2.1 :: (u64 (u32 (u4 [])))))))))))))))))) (fun (s1 : (List Decl) × (List Ty) × Int × (List Int)) => [.box (.mapr 1 :: (.mapr 2 :: (bR ++ (.psl 7 1 (List.length s1.2.2.2) :: [])))), .mp (dZ p0), .mp (dL p1), .dead, .box [.i p3.op, .str p3.name, .i p3.n, .i p3.ty.kind, .str p3.ty.name, aJ p3.ty.kids, dN p3.kids], .box [.i 0, .str ([] : Str), .slice (List.map aG ([] : List Ty)) .nils], .tip (List.length s1.2.1 * 3), .arr 1 (List.map encI s1.2.2.2)]) ho1 (fun _ => rfl) (wk [some 0, some 1, some 2, some 3, some 4, some 5, none, some 3] (.c rfl (.u (.cons (.N7 (aK _ _)) (.u (.c rfl (.u (.c rfl (.u (.cons (.nils _ _) (.u8 (.u4 (.u (.c rfl (.c rfl (.u64 (.u32 (.u4 .nil))))))))))))))))) (.b rfl (.c rfl (.c rfl (.jX aI (.c rfl .nil)))) (.old .mT (.old .mB (.old (.dead _) (.b rfl (.c rfl (.c rfl (.c rfl (.c rfl (.c rfl (.e aF (.e aT .nil))))))) (.b rfl (.c rfl (.c rfl (.c rfl .nil))) (.w rfl (.old (.arr' aL (bB _)) .nil)))))))) rfl) ?_
 intro n1 s1 hs1 KL1 hKL1
 unfold iY at hs1
 refine .q fun K27 k27 => rg 0 ?_
 refine k27 _ _ ?_
 refine .q fun K28 k28 => ?_
 refine .aA rfl hs1 (fun hc64 hs1 => ?_) (fun hc64 hs1 => ?_)
 ·refine .skip ?_
  refine k28 _ _ ?_
  refine .q fun K29 k29 => ?_
  obtain ⟨o2, hj3, hs1⟩ := ob hs1
  have hR4 : ∀ s5 : (List Decl) × (List Ty) × (List Int), o2 = .nx s5 → ∀ t9 h9, Le 4 t9 h9 (.ptr 0 0 :: (.unk :: (.flist (List.map bD s5.1) :: (.unk :: (.ptr 4 0 :: (.unk :: (.ptr 5 0 :: (.unk :: (.slice (List.map aG s5.2.1) (.tip 6 3) :: (u8 (u4 (.unk :: (.i (p3.kids.length : Int) :: (.i s1.2.2.1 :: (u64 (u32 (u4 []))))))))))))))))) [.box (.mapr 1 :: (.mapr 2 :: (bR ++ (.psl 7 1 (List.length s5.2.2) :: [])))), .mp (dZ p0), .mp (dL p1), .dead, .box [.i p3.op, .str p3.name, .i p3.n, .i p3.ty.kind, .str p3.ty.name, aJ p3.ty.kids, dN p3.kids], .box [.i 0, .str ([] : Str), .slice (List.map aG ([] : List Ty)) .nils], .tip (List.length s5.2.1 * 3), .arr 1 (List.map encI s5.2.2)] → K29 t9 h9 := by
   intro s5 ho
   subst ho
   dsimp only [LR.el] at hs1
   intro t9 h9 hw
   refine k29 _ _ (AW.le hw ?_)
   clear hw
   refine .know 23 0 fun hv1 => ?_
   refine .know 22 0 fun hv2 => ?_
   refine rg 0 ?_
   refine ⟨(s1.2.2.1 + 1), by have := iW hv1; have := iW hv2; have h8 := of_decide_eq_true hc64; exact dG (by omega) (by omega), ?_⟩
   exact hKL1 _ _ _ hs1 (wk [some 0, some 1, some 2, some 3, some 4, some 5, some 6, some 7] (.c rfl (.u (.cons (.N7 (aK _ _)) (.u (.c rfl (.u (.c rfl (.u (.cons (.su (aF _ _) rfl) (.u8 (.u4 (.u (.c rfl (.c rfl (.u64 (.u32 (.u4 .nil))))))))))))))))) (.b rfl (.c rfl (.c rfl (.jX aI (.c rfl .nil)))) (.old .mT (.old .mB (.old (.dead _) (.b rfl (.c rfl (.c rfl (.c rfl (.c rfl (.c rfl (.e aF (.e aT .nil))))))) (.b rfl (.c rfl (.c rfl (.c rfl .nil))) (.t rfl (.old (.arr' aL (bB _)) .nil)))))))) rfl)
  refine .block ?_
  refine .q fun K30 k30 => rg 0 ?_
  refine k30 _ _ ?_
  refine .q fun K31 k31 => rg 2 ?_
  obtain ⟨x57, hx57, hj3⟩ := ob hj3
  refine bI [0, 1, 2, 7] [8] [.ptr 0 0, dW p3, .i s1.2.2.1, .flist (List.map bD s1.1)] [.ptr 0 0, dW p3, .i s1.2.2.1, .flist (List.map bD s1.1)] (hrec_typing_checker_child _ _ _ _ _ _ _ hx57) TV rfl (.cons (by simp only [bC, ren, bn, aW, cB, bf, aL, aU, bA, aF, aT, aC, aK, aI]; try rfl) (.cons (congrArg AObj.mp (bK (f := aQ) (fun g x => by simp) _ _)) (.cons (congrArg AObj.mp (bK (f := (fun (x : Bool) => .bool x)) (fun g x => rfl) _ _)) (.cons (congrArg (AObj.arr _) (aL _ _)) .nil)))) (by simp; try decide) (.cons (.same _) (.cons (.same _) (.cons (.same _) (.cons (.same _) .nil)))) (rn := .tup [aQ x57.1, .i x57.2.1]) (by simp; try decide) (Hn := [.box (.mapr 1 :: (.mapr 2 :: (bR ++ (.psl 8 1 (List.length x57.2.2) :: [])))), .mp (dZ p0), .mp (dL p1), .dead, .arr 1 (List.map encI x57.2.2)]) ((aZ (by simp only [bC, ren, bn, aW, cB, bf, aL, aU, bA, aF, aT, aC, aK, aI]; try rfl) (aZ (congrArg AObj.mp (bK (f := aQ) (fun g x => by simp) _ _)) (aZ (congrArg AObj.mp (bK (f := (fun (x : Bool) => .bool x)) (fun g x => rfl) _ _)) (aZ (rfl) (aZ (congrArg (AObj.arr _) (aL _ _)) rfl)))))) ?_
  refine k31 _ _ ?_
  refine .q fun K32 k32 => .q fun K33 k33 => rg 0 ?_
  refine k33 _ _ ?_
  refine .aA rfl hj3 (fun hc65 hj3 => ?_) (fun hc65 hj3 => ?_)
  ·refine .q fun K34 k34 => rg 0 ?_
   refine k34 _ _ ?_
   refine .ret ?_
   have e9 := sj hj3
   subst e9
   dsimp only [LR.el] at hs1
   have e9 := sj hs1
   subst e9
   dsimp only [LR.el] at h
   have e9 := sj h
   subst e9
   refine hQ _ _ _ (bP (u4 (u2 (.ptr 4 0 :: (.i x57.2.1 :: (u64 (u32 (u16 (u4 [])))))))) [.box (.mapr 1 :: (.mapr 2 :: (bR ++ (.psl 5 1 (List.length x57.2.2) :: [])))), .mp (dZ p0), .mp (dL p1), .dead, .box [.i 0, .str ([] : Str), .slice (List.map aG ([] : List Ty)) .nils], .arr 1 (List.map encI x57.2.2)] (wk [some 0, some 1, some 2, some 3, some 5, some 8] (.u4 (.u2 (.c rfl (.c rfl (.u64 (.u32 (.u16 (.u4 .nil)))))))) (.b rfl (.c rfl (.c rfl (.jX aI (.c rfl .nil)))) (.old .mT (.old .mB (.old (.dead _) (.b rfl (.c rfl (.c rfl (.c rfl .nil))) (.old (.arr' aL (bB _)) .nil)))))) rfl) (aX au [0, 1, 2, 3, 5] rfl (.cons (by simp only [bC, ren, bn, aW, cB, bf, aL, aU, bA, aF, aT, aC, aK, aI]; try rfl) (.cons (congrArg AObj.mp (bK (f := aQ) (fun g x => by simp) _ _)) (.cons (congrArg AObj.mp (bK (f := (fun (x : Bool) => .bool x)) (fun g x => rfl) _ _)) (.cons (rfl) (.cons (congrArg (AObj.arr _) (aL _ _)) .nil))))) ?_))
   conv => whnf
   first | rfl | (simp; done) | (simp; rfl) | (simp; constructor <;> rfl)
  refine .skip ?_
  refine k32 _ _ ?_
  refine .q fun K35 k35 => rg 2 ?_
  refine ⟨List.map aG ([x57.1]), by simp only [List.map_cons, List.map_nil, aR]; rfl, ?_⟩
  obtain ⟨x58, hx58, hj3⟩ := ob hj3
  refine pR (l := s1.2.1) (ys := [x57.1]) (f := aG) hx58 SS rfl rfl rfl ?_
  refine k35 _ _ ?_
  refine .q fun K36 k36 => ?_
  obtain ⟨s6, hj4, hj3⟩ := ob hj3
  have hR5 : ∀ t9 h9, Le 4 t9 h9 (.ptr 0 0 :: (.unk :: (.flist (List.map bD s1.1) :: (.unk :: (.ptr 4 0 :: (.unk :: (.ptr 5 0 :: (.unk :: (.slice (List.map aG x58) (.tip 6 3) :: (.unk :: (.ptr 7 0 :: (u8 (u2 (.unk :: (.i (p3.kids.length : Int) :: (.i s1.2.2.1 :: (u16 (u8 (.bool s6 :: (u64 (u8 (u2 (.unk :: []))))))))))))))))))))))) [.box (.mapr 1 :: (.mapr 2 :: (bR ++ (.psl 8 1 (List.length x57.2.2) :: [])))), .mp (dZ p0), .mp (dL p1), .dead, .box [.i p3.op, .str p3.name, .i p3.n, .i p3.ty.kind, .str p3.ty.name, aJ p3.ty.kids, dN p3.kids], .box [.i 0, .str ([] : Str), .slice (List.map aG ([] : List Ty)) .nils], .tip (List.length x58 * 3), .box [.i x57.1.kind, .str x57.1.name, aJ x57.1.kids], .arr 1 (List.map encI x57.2.2)] → K36 t9 h9 := by
   intro t9 h9 hw
   refine k36 _ _ (AW.le hw ?_)
   clear hw
   refine .aA rfl hj3 (fun hc66 hj3 => ?_) (fun hc66 hj3 => ?_)
   ·refine .q fun K37 k37 => rg 1 ?_
    obtain ⟨x59, hx59, hj3⟩ := ob hj3
    refine cp (bU _ _ _ hx59) lV (.cons (.same _) .nil) ?_
    refine k37 _ _ ?_
    refine .q fun K38 k38 => .q fun K39 k39 => rg 0 ?_
    refine k39 _ _ ?_
    refine .aA rfl hj3 (fun hc67 hj3 => ?_) (fun hc67 hj3 => ?_)
    ·refine .q fun K40 k40 => rg 0 ?_
     refine k40 _ _ ?_
     refine .ret ?_
     have e9 := sj hj3
     subst e9
     dsimp only [LR.el] at hs1
     have e9 := sj hs1
     subst e9
     dsimp only [LR.el] at h
     have e9 := sj h
     subst e9
     refine hQ _ _ _ (bP (u4 (u2 (.ptr 4 0 :: (.i 7 :: (u64 (u32 (u16 (u4 [])))))))) [.box (.mapr 1 :: (.mapr 2 :: (bR ++ (.psl 5 1 (List.length x57.2.2) :: [])))), .mp (dZ p0), .mp (dL p1), .dead, .box [.i 0, .str ([] : Str), .slice (List.map aG ([] : List Ty)) .nils], .arr 1 (List.map encI x57.2.2)] (wk [some 0, some 1, some 2, some 3, some 5, some 8] (.u4 (.u2 (.c rfl (.c rfl (.u64 (.u32 (.u16 (.u4 .nil)))))))) (.b rfl (.c rfl (.c rfl (.jX aI (.c rfl .nil)))) (.old .mT (.old .mB (.old (.dead _) (.b rfl (.c rfl (.c rfl (.c rfl .nil))) (.old (.arr' aL (bB _)) .nil)))))) rfl) (aX au [0, 1, 2, 3, 5] rfl (.cons (by simp only [bC, ren, bn, aW, cB, bf, aL, aU, bA, aF, aT, aC, aK, aI]; try rfl) (.cons (congrArg AObj.mp (bK (f := aQ) (fun g x => by simp) _ _)) (.cons (congrArg AObj.mp (bK (f := (fun (x : Bool) => .bool x)) (fun g x => rfl) _ _)) (.cons (rfl) (.cons (congrArg (AObj.arr _) (aL _ _)) .nil))))) ?_))
     conv => whnf
     first | rfl | (simp; done) | (simp; rfl) | (simp; constructor <;> rfl)
    refine .skip ?_
    refine k38 _ _ ?_
    refine rg 1 ?_
    exact hR4 _ (sj hj3).symm _ _ (wk [some 0, some 1, some 2, some 3, some 4, some 5, some 6, some 8] (.c rfl (.u (.cons (.Xa (cs' := [.str p3.name, .i x59.1.kind, .str x59.1.name, aJ x59.1.kids]) (v := .flist (List.map bD s1.1)) rfl rfl (.c rfl (.c rfl (.c rfl (.e aF .nil)))) (.N7 (aK _ _))) (.u (.c rfl (.u (.c rfl (.u (.cons (.su (aF _ _) rfl) (.u8 (.u4 (.u (.c rfl (.c rfl (.u64 (.u32 (.u4 .nil))))))))))))))))) (.b rfl (.c rfl (.c rfl (.jX aI (.c rfl .nil)))) (.old .mT (.old .mB (.old (.dead _) (.b rfl (.c rfl (.c rfl (.c rfl (.c rfl (.c rfl (.e aF (.e aT .nil))))))) (.b rfl (.c rfl (.c rfl (.c rfl .nil))) (.t rfl (.old (.arr' aL (bB _)) .nil)))))))) rfl)
   refine .skip ?_
   exact hR4 _ (sj hj3).symm _ _ (wk [some 0, some 1, some 2, some 3, some 4, some 5, some 6, some 8] (.c rfl (.u (.cons (.N7 (aK _ _)) (.u (.c rfl (.u (.c rfl (.u (.cons (.su (aF _ _) rfl) (.u8 (.u4 (.u (.c rfl (.c rfl (.u64 (.u32 (.u4 .nil))))))))))))))))) (.b rfl (.c rfl (.c rfl (.jX aI (.c rfl .nil)))) (.old .mT (.old .mB (.old (.dead _) (.b rfl (.c rfl (.c rfl (.c rfl (.c rfl (.c rfl (.e aF (.e aT .nil))))))) (.b rfl (.c rfl (.c rfl (.c rfl .nil))) (.t rfl (.old (.arr' aL (bB _)) .nil)))))))) rfl)
  refine rg 0 ?_
  refine aB hj4 (fun hc68 hj4 => ?_) (fun hc68 hj4 => ?_)
  ·obtain ⟨x60, hx60, hj4⟩ := ob hj4
   refine aD (F6 _ _ _ hx60) Tv (.cons (.same _) .nil) (fun g => rfl) (fun g => rfl) ?_
   cases hj4
   exact Sy (hR5 _ _)
  cases hj4
  exact Sy (hR5 _ _)
 refine .exit ?_
 exact hR1 _ (sj hs1).symm _ _ (wk [some 0, some 1, some 2, some 3, some 4, some 5, some 6, some 7] (.c rfl (.u (.cons (.N7 (aK _ _)) (.u (.c rfl (.u (.c rfl (.u (.cons (.su (aF _ _) rfl) (.u64 (.u32 (.u16 (.u2 (.u .nil)))))))))))))) (.b rfl (.c rfl (.c rfl (.jX aI (.c rfl .nil)))) (.old .mT (.old .mB (.old (.dead _) (.b rfl (.c rfl (.c rfl (.c rfl (.c rfl (.c rfl (.e aF (.e aT .nil))))))) (.b rfl (.c rfl (.c rfl (.c rfl .nil))) (.t rfl (.old (.arr' aL (bB _)) .nil)))))))) rfl)
theorem uR (n : Nat) (rec_typing_checker_of : (List (Str × Ty)) → (List (Str × Bool)) → (List Int) → Tm → (List Decl) → Option (Ty × Int × (List Int))) (rec_typing_checker_child : (List (Str × Ty)) → (List (Str × Bool)) → (List Int) → Tm → Int → (List Decl) → Option (Ty × Int × (List Int))) (hrec_typing_checker_of : nk rec_typing_checker_of) (hrec_typing_checker_child : nY rec_typing_checker_child) (p0 : List (Str × Ty)) (p1 : List (Str × Bool)) (p2 : List Int) (p3 : Tm) (p4 : Int) (p5 : List Decl) (r : Ty × Int × (List Int)) (h : iy n rec_typing_checker_of rec_typing_checker_child p0 p1 p2 p3 p4 p5 = some r) : ak Tryz.prog 132 [.ptr 0 0, dW p3, .i p4, .flist (List.map bD p5)] [.box (.mapr 1 :: (.mapr 2 :: (bR ++ (.psl 3 1 (List.length p2) :: [])))), .mp (dZ p0), .mp (dL p1), .arr 1 (List.map encI p2)] (.tup [aQ r.1, .i r.2.1]) [.box (.mapr 1 :: (.mapr 2 :: (bR ++ (.psl 4 1 (List.length r.2.2) :: [])))), .mp (dZ p0), .mp (dL p1), .dead, .arr 1 (List.map encI r.2.2)] := by
 unfold iy at h
 refine ah true Tryz.func132 rfl (nt Tryz.ntmps132 rfl) fun Q hQ t ht => ?_
 conv at ht => whnf
 subst ht
 refine .q fun K1 k1 => rg 2 ?_
 refine k1 _ _ ?_
 refine .q fun K2 k2 => rg 2 ?_
 refine ⟨List.map encI ([p4]), rfl, ?_⟩
 obtain ⟨x1, hx1, h⟩ := ob h
 refine Np (l := p2) (l' := p2) (ys := ([p4])) (f := encI) hx1 (bB _) Vz ?_
 refine k2 _ _ ?_
 refine .q fun K3 k3 => rg 2 ?_
 obtain ⟨x2, hx2, h⟩ := ob h
 refine aN (l := p3.kids) (f := aY) (cs := [.i ((x2).op), .str ((x2).name), .i ((x2).n), .i (((x2).ty).kind), .str (((x2).ty).name), aJ (((x2).ty).kids), dN ((x2).kids)]) hx2 (bG x2) rfl ?_
 obtain ⟨x3, hx3, h⟩ := ob h
 refine bI [0, 1, 2, 7] [8] [.ptr 0 0, dW x2, .flist (List.map bD p5)] [.ptr 0 0, dW x2, .flist (List.map bD p5)] (hrec_typing_checker_of _ _ _ _ _ _ hx3) PZ rfl (.cons (by simp only [bC, ren, bn, aW, cB, bf, aL, aU, bA, aF, aT, aC, aK, aI]; try rfl) (.cons (congrArg AObj.mp (bK (f := aQ) (fun g x => by simp) _ _)) (.cons (congrArg AObj.mp (bK (f := (fun (x : Bool) => .bool x)) (fun g x => rfl) _ _)) (.cons (congrArg (AObj.arr _) (aL _ _)) .nil)))) (by simp; try decide) (.cons (.same _) (.cons (.same _) (.cons (.same _) .nil))) (rn := .tup [aQ x3.1, .i x3.2.1]) (by simp; try decide) (Hn := [.box (.mapr 1 :: (.mapr 2 :: (bR ++ (.psl 8 1 (List.length x3.2.2) :: [])))), .mp (dZ p0), .mp (dL p1), .dead, .arr 1 (List.map encI x3.2.2)]) ((aZ (by simp only [bC, ren, bn, aW, cB, bf, aL, aU, bA, aF, aT, aC, aK, aI]; try rfl) (aZ (congrArg AObj.mp (bK (f := aQ) (fun g x => by simp) _ _)) (aZ (congrArg AObj.mp (bK (f := (fun (x : Bool) => .bool x)) (fun g x => rfl) _ _)) (aZ (rfl) (aZ (congrArg (AObj.arr _) (aL _ _)) rfl)))))) ?_
 refine k3 _ _ ?_
 refine .q fun K4 k4 => ?_
 obtain ⟨s1, hj1, h⟩ := ob h
 have hR1 : ∀ t9 h9, Le 4 t9 h9 (u8 (.ptr 4 0 :: (.unk :: (.ptr 5 0 :: (.i x3.2.1 :: (u32 (u4 (u2 (.unk :: []))))))))) [.box (.mapr 1 :: (.mapr 2 :: (bR ++ (.psl 6 1 (List.length s1) :: [])))), .mp (dZ p0), .mp (dL p1), .dead, .box [.i 0, .str ([] : Str), .slice (List.map aG ([] : List Ty)) .nils], .box [.i x3.1.kind, .str x3.1.name, aJ x3.1.kids], .arr 1 (List.map encI s1)] → K4 t9 h9 := by
  intro t9 h9 hw
  refine k4 _ _ (AW.le hw ?_)
  clear hw
  refine .q fun K5 k5 => rg 0 ?_
  refine k5 _ _ ?_
  refine .ret ?_
  have e9 := sj h
  subst e9
  refine hQ _ _ _ (bP (u8 (.ptr 4 0 :: (.i x3.2.1 :: (u32 (u8 (.unk :: [])))))) [.box (.mapr 1 :: (.mapr 2 :: (bR ++ (.psl 5 1 (List.length s1) :: [])))), .mp (dZ p0), .mp (dL p1), .dead, .box [.i x3.1.kind, .str x3.1.name, aJ x3.1.kids], .arr 1 (List.map encI s1)] (wk [some 0, some 1, some 2, some 3, some 4, some 6] (.u8 (.c rfl (.c rfl (.u32 (.u8 (.u .nil)))))) (.b rfl (.c rfl (.c rfl (.jX aI (.c rfl .nil)))) (.old .mT (.old .mB (.old (.dead _) (.b rfl (.c rfl (.c rfl (.e aF .nil))) (.old (.arr' aL (bB _)) .nil)))))) rfl) (aX au [0, 1, 2, 3, 5] rfl (.cons (by simp only [bC, ren, bn, aW, cB, bf, aL, aU, bA, aF, aT, aC, aK, aI]; try rfl) (.cons (congrArg AObj.mp (bK (f := aQ) (fun g x => by simp) _ _)) (.cons (congrArg AObj.mp (bK (f := (fun (x : Bool) => .bool x)) (fun g x => rfl) _ _)) (.cons (rfl) (.cons (congrArg (AObj.arr _) (aL _ _)) .nil))))) ?_))
  conv => whnf
  first | rfl | (simp; done) | (simp; rfl) | (simp; constructor <;> rfl)
 refine .q fun K6 k6 => rg 0 ?_
 refine k6 _ _ ?_
 refine .aA rfl hj1 (fun hc1 hj1 => ?_) (fun hc1 hj1 => ?_)
 ·refine rg 0 ?_
  refine ⟨(IntKind.wrap .i64 ((x3.2.2.length : Int) - 1)), rfl, ?_⟩
  obtain ⟨x4, hx4, hj1⟩ := ob hj1
  refine Ue hx4 ?_
  refine ⟨rfl, ?_⟩
  cases hj1
  exact hR1 _ _ (wk [some 0, some 1, some 2, some 3, some 5, some 9, some 8] (.u8 (.c rfl (.u (.c rfl (.c rfl (.u32 (.u4 (.u2 (.u .nil))))))))) (.b rfl (.c rfl (.c rfl (.jX aI (.c rfl .nil)))) (.old .mT (.old .mB (.old (.dead _) (.b rfl (.c rfl (.c rfl (.c rfl .nil))) (.b rfl (.c rfl (.c rfl (.e aF .nil))) (.old (.arr' aL (Sb hx4 (bB _))) .nil))))))) rfl)
 refine .skip ?_
 cases hj1
 exact hR1 _ _ (wk [some 0, some 1, some 2, some 3, some 5, some 9, some 8] (.u8 (.c rfl (.u (.c rfl (.c rfl (.u32 (.u4 (.u2 (.u .nil))))))))) (.b rfl (.c rfl (.c rfl (.jX aI (.c rfl .nil)))) (.old .mT (.old .mB (.old (.dead _) (.b rfl (.c rfl (.c rfl (.c rfl .nil))) (.b rfl (.c rfl (.c rfl (.e aF .nil))) (.old (.arr' aL (bB _)) .nil))))))) rfl)
theorem Ab (n : Nat) : nk (eU n) ∧ nY (dX n) := by
 induction n with
 | zero => exact ⟨(fun p0 p1 p2 p3 p4 r h => by unfold eU at h; cases h), (fun p0 p1 p2 p3 p4 p5 r h => by unfold dX at h; cases h)⟩
 | succ n ih =>
  exact ⟨(fun p0 p1 p2 p3 p4 r h => wH n _ _ ih.1 ih.2 p0 p1 p2 p3 p4 r (by unfold eU at h; exact h)), (fun p0 p1 p2 p3 p4 p5 r h => uR n _ _ ih.1 ih.2 p0 p1 p2 p3 p4 p5 r (by unfold dX at h; exact h))⟩
theorem BN (n : Nat) : nk (eU n) := (Ab n).1
end Abs
end Go.Proofs.YtiiaccpcoclklaaGreat
