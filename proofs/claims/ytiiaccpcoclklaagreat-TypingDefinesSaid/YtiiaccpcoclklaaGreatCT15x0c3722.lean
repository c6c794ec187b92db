/-
  Contracts of Go functions (printed). Conditions: none.
-/
import Derived.KernelRfl
import Derived.Test.YtiiaccpcoclklaaGreatCT10xcae7c0
import Derived.Test.YtiiaccpcoclklaaGreatCT13x0ce850
set_option linter.unusedSimpArgs false
set_option linter.unusedVariables false
namespace Go.Proofs.YtiiaccpcoclklaaGreat
namespace Abs
open Go Go.Proofs
set_option maxRecDepth 100000
set_option maxHeartbeats 40000000
theorem t15x0 {p q : Prop} (f : p → q) (h : p := by exact wk [some 0, some 1, some 2, some 3, some 5, some 8, some 7] (.u4 (.u2 (.c rfl (.u8 (.u2 (.u (.c rfl (.c rfl (.u64 (.u32 (.u8 .nil))))))))))) (.b rfl (.c rfl (.c rfl (.dK aP (.c rfl .nil)))) (.old .mT (.old .mB (.old (.dead _) (.b rfl (.c rfl (.c rfl (.c rfl .nil))) (.b rfl (.c rfl (.c rfl (.e aB .nil))) (.old (.arr' aQ (aT _)) .nil))))))) rfl) : q := f h
theorem t15x1 {p q : Prop} (f : p → q) (h : p := by exact wk [some 0, some 1, some 2, some 3, some 4, some 5, some 11, some 9, some 8] (.c rfl (.u (.cons (.flS (aG _ _)) (.u (.c rfl (.u (.c rfl (.u (.cons (.bF (aB _ _) rfl) (.u (.c rfl (.u8 (.u2 (.u (.c rfl (.c rfl (.u16 (.u8 (.c rfl (.u64 (.u8 (.u2 (.u .nil))))))))))))))))))))))) (.b rfl (.c rfl (.c rfl (.dK aP (.c rfl .nil)))) (.old .mT (.old .mB (.old (.dead _) (.b rfl (.c rfl (.c rfl (.c rfl (.c rfl (.c rfl (.e aB (.e aN .nil))))))) (.b rfl (.c rfl (.c rfl (.c rfl .nil))) (.t rfl (.b rfl (.c rfl (.c rfl (.e aB .nil))) (.old (.arr' aQ (aT _)) .nil))))))))) rfl) : q := f h
abbrev typing_checker_of_S (rec_typing_checker_of : (List (Str × Ty)) → (List (Str × Bool)) → (List Int) → Tm → (List Decl) → Option (Ty × Int × (List Int))) : Prop := ∀ (p0 : List (Str × Ty)) (p1 : List (Str × Bool)) (p2 : List Int) (p3 : Tm) (p4 : List Decl) (r : Ty × Int × (List Int)), rec_typing_checker_of p0 p1 p2 p3 p4 = some r → ak Tryz.prog 68 [.ptr 0 0, bg p3, .flist (List.map aO p4)] [.box (.mapr 1 :: (.mapr 2 :: (dD ++ (.psl 3 1 (List.length p2) :: [])))), .mp (fP p0), .mp (eX p1), .arr 1 (List.map encI p2)] (.bq [aV r.1, .i r.2.1]) [.box (.mapr 1 :: (.mapr 2 :: (dD ++ (.psl 4 1 (List.length r.2.2) :: [])))), .mp (fP p0), .mp (eX p1), .dead, .arr 1 (List.map encI r.2.2)]
abbrev typing_checker_child_S (rec_typing_checker_child : (List (Str × Ty)) → (List (Str × Bool)) → (List Int) → Tm → Int → (List Decl) → Option (Ty × Int × (List Int))) : Prop := ∀ (p0 : List (Str × Ty)) (p1 : List (Str × Bool)) (p2 : List Int) (p3 : Tm) (p4 : Int) (p5 : List Decl) (r : Ty × Int × (List Int)), rec_typing_checker_child p0 p1 p2 p3 p4 p5 = some r → ak Tryz.prog 132 [.ptr 0 0, bg p3, .i p4, .flist (List.map aO p5)] [.box (.mapr 1 :: (.mapr 2 :: (dD ++ (.psl 3 1 (List.length p2) :: [])))), .mp (fP p0), .mp (eX p1), .arr 1 (List.map encI p2)] (.bq [aV r.1, .i r.2.1]) [.box (.mapr 1 :: (.mapr 2 :: (dD ++ (.psl 4 1 (List.length r.2.2) :: [])))), .mp (fP p0), .mp (eX p1), .dead, .arr 1 (List.map encI r.2.2)]
theorem Gb (n : Nat) (rec_typing_checker_of : (List (Str × Ty)) → (List (Str × Bool)) → (List Int) → Tm → (List Decl) → Option (Ty × Int × (List Int))) (rec_typing_checker_child : (List (Str × Ty)) → (List (Str × Bool)) → (List Int) → Tm → Int → (List Decl) → Option (Ty × Int × (List Int))) (hrec_typing_checker_of : typing_checker_of_S rec_typing_checker_of) (hrec_typing_checker_child : typing_checker_child_S rec_typing_checker_child) (p0 : List (Str × Ty)) (p1 : List (Str × Bool)) (p2 : List Int) (p3 : Tm) (p4 : List Decl) (r : Ty × Int × (List Int)) (h : mO n rec_typing_checker_of rec_typing_checker_child p0 p1 p2 p3 p4 = some r) : ak Tryz.prog 68 [.ptr 0 0, bg p3, .flist (List.map aO p4)] [.box (.mapr 1 :: (.mapr 2 :: (dD ++ (.psl 3 1 (List.length p2) :: [])))), .mp (fP p0), .mp (eX p1), .arr 1 (List.map encI p2)] (.bq [aV r.1, .i r.2.1]) [.box (.mapr 1 :: (.mapr 2 :: (dD ++ (.psl 4 1 (List.length r.2.2) :: [])))), .mp (fP p0), .mp (eX p1), .dead, .arr 1 (List.map encI r.2.2)] := by
 unfold mO at h
 refine ah true Tryz.func68 rfl (nt Tryz.ntmps68 rfl) fun Q hQ t ht => ?_
 conv at ht => whnf
 subst ht
 refine .q fun K1 k1 => rg 2 ?_
 refine k1 _ _ ?_
 refine .q fun K2 k2 => rg 0 ?_
 refine k2 _ _ ?_
 refine .q fun K3 k3 => .q fun K4 k4 => rg 0 ?_
 refine aW (l := p3.kids) (f := aS) ?_
 refine k4 _ _ ?_
 refine .block ?_
 obtain ⟨o1, ho1, h⟩ := ob h
 have hR1 : ∀ s2 : (List Decl) × (List Ty) × (List Int), o1 = .nx s2 → ∀ t9 h9, Le 4 t9 h9 (.ptr 0 0 :: (.unk :: (.flist (List.map aO s2.1) :: (.unk :: (.ptr 4 0 :: (.unk :: (.ptr 5 0 :: (.unk :: (.slice (List.map aK s2.2.1) (.tip 6 3) :: (u64 (u32 (u16 (u2 (.unk :: [])))))))))))))) [.box (.mapr 1 :: (.mapr 2 :: (dD ++ (.psl 7 1 (List.length s2.2.2) :: [])))), .mp (fP p0), .mp (eX p1), .dead, .box [.i p3.op, .str p3.name, .i p3.n, .i p3.ty.kind, .str p3.ty.name, aI p3.ty.kids, bn p3.kids], .box [.i 0, .str ([] : Str), .slice (List.map aK ([] : List Ty)) .nils], .tip (List.length s2.2.1 * 3), .arr 1 (List.map encI s2.2.2)] → K3 t9 h9 := by
  intro s2 ho
  subst ho
  dsimp only [LR.el] at h
  intro t9 h9 hw
  refine k3 _ _ (AW.le hw ?_)
  refine .q fun K5 k5 => .q fun K6 k6 => rg 0 ?_
  refine k6 _ _ ?_
  refine .block ?_
  refine .q fun K7 k7 => rg 0 ?_
  refine k7 _ _ ?_
  refine .aC rfl h (fun hc1 h => ?_) (fun hc1 h => ?_)
  ·refine .q fun K8 k8 => .q fun K9 k9 => rg 1 ?_
   obtain ⟨x1, hx1, h⟩ := ob h
   refine cp (JN _ _ _ _ hx1) apN (.cons (.same _) (.cons (.same _) .nil)) ?_
   refine k9 _ _ ?_
   refine .q fun K10 k10 => rg 0 ?_
   refine k10 _ _ ?_
   refine .aC rfl h (fun hc2 h => ?_) (fun hc2 h => ?_)
   ·refine .q fun K11 k11 => rg 0 ?_
    refine k11 _ _ ?_
    refine .ret ?_
    have e9 := sj h
    subst e9
    refine hQ _ _ _ (dI (u4 (u2 (.ptr 4 0 :: (.i 0 :: (u64 (u32 (u16 (u4 [])))))))) [.box (.mapr 1 :: (.mapr 2 :: (dD ++ (.psl 5 1 (List.length s2.2.2) :: [])))), .mp (fP p0), .mp (eX p1), .dead, .box [.i x1.1.kind, .str x1.1.name, aI x1.1.kids], .arr 1 (List.map encI s2.2.2)] (wk [some 0, some 1, some 2, some 3, some 5, some 7] (.u4 (.u2 (.c rfl (.c rfl (.u64 (.u32 (.u16 (.u4 .nil)))))))) (.b rfl (.c rfl (.c rfl (.dK aP (.c rfl .nil)))) (.old .mT (.old .mB (.old (.dead _) (.b rfl (.c rfl (.c rfl (.e aB .nil))) (.old (.arr' aQ (aT _)) .nil)))))) rfl) (bP aD [0, 1, 2, 3, 5] rfl (.cons (by simp only [cO, ren, bW, bK, dJ, bN, aQ, aZ, bS, aB, aN, aA, aG, aP]; try rfl) (.cons (congrArg AObj.mp (dS (f := aV) (fun g x => by simp) _ _)) (.cons (congrArg AObj.mp (dS (f := (fun (x : Bool) => .bool x)) (fun g x => rfl) _ _)) (.cons (rfl) (.cons (congrArg (AObj.arr _) (aQ _ _)) .nil))))) ?_))
    conv => whnf
    first | rfl | (simp; done) | (simp; rfl) | (simp; constructor <;> rfl)
   refine .skip ?_
   refine k8 _ _ ?_
   refine .q fun K12 k12 => ?_
   obtain ⟨s3, hj1, h⟩ := ob h
   have hR2 : ∀ t9 h9, Le 4 t9 h9 (u4 (u2 (.ptr 4 0 :: (u8 (.unk :: (.ptr 5 0 :: (.bool s3.1 :: (u64 (u32 (u8 (u2 []))))))))))) [.box (.mapr 1 :: (.mapr 2 :: (dD ++ (.psl 6 1 (List.length s2.2.2) :: [])))), .mp (fP p0), .mp (eX p1), .dead, .box [.i 0, .str ([] : Str), .slice (List.map aK ([] : List Ty)) .nils], .box [.i s3.2.1, .str s3.2.2.1, aI s3.2.2.2], .arr 1 (List.map encI s2.2.2)] → K12 t9 h9 := by
    intro t9 h9 hw
    refine k12 _ _ (AW.le hw ?_)
    clear hw
    refine .q fun K13 k13 => .q fun K14 k14 => rg 0 ?_
    refine k14 _ _ ?_
    refine .aC rfl h (fun hc3 h => ?_) (fun hc3 h => ?_)
    ·refine .q fun K15 k15 => rg 0 ?_
     refine k15 _ _ ?_
     refine .ret ?_
     have e9 := sj h
     subst e9
     refine hQ _ _ _ (dI (u4 (u2 (.ptr 4 0 :: (.i 6 :: (u64 (u32 (u16 (u4 [])))))))) [.box (.mapr 1 :: (.mapr 2 :: (dD ++ (.psl 5 1 (List.length s2.2.2) :: [])))), .mp (fP p0), .mp (eX p1), .dead, .box [.i 0, .str ([] : Str), .slice (List.map aK ([] : List Ty)) .nils], .arr 1 (List.map encI s2.2.2)] (wk [some 0, some 1, some 2, some 3, some 4, some 6] (.u4 (.u2 (.c rfl (.c rfl (.u64 (.u32 (.u16 (.u4 .nil)))))))) (.b rfl (.c rfl (.c rfl (.dK aP (.c rfl .nil)))) (.old .mT (.old .mB (.old (.dead _) (.b rfl (.c rfl (.c rfl (.c rfl .nil))) (.old (.arr' aQ (aT _)) .nil)))))) rfl) (bP aD [0, 1, 2, 3, 5] rfl (.cons (by simp only [cO, ren, bW, bK, dJ, bN, aQ, aZ, bS, aB, aN, aA, aG, aP]; try rfl) (.cons (congrArg AObj.mp (dS (f := aV) (fun g x => by simp) _ _)) (.cons (congrArg AObj.mp (dS (f := (fun (x : Bool) => .bool x)) (fun g x => rfl) _ _)) (.cons (rfl) (.cons (congrArg (AObj.arr _) (aQ _ _)) .nil))))) ?_))
     conv => whnf
     first | rfl | (simp; done) | (simp; rfl) | (simp; constructor <;> rfl)
    refine .skip ?_
    refine k13 _ _ ?_
    refine .q fun K16 k16 => rg 0 ?_
    refine k16 _ _ ?_
    refine .ret ?_
    have e9 := sj h
    subst e9
    refine hQ _ _ _ (dI (u4 (u2 (.ptr 4 0 :: (.i 0 :: (u64 (u32 (u16 (u4 [])))))))) [.box (.mapr 1 :: (.mapr 2 :: (dD ++ (.psl 5 1 (List.length s2.2.2) :: [])))), .mp (fP p0), .mp (eX p1), .dead, .box [.i s3.2.1, .str s3.2.2.1, aI s3.2.2.2], .arr 1 (List.map encI s2.2.2)] (wk [some 0, some 1, some 2, some 3, some 4, some 6] (.u4 (.u2 (.c rfl (.c rfl (.u64 (.u32 (.u16 (.u4 .nil)))))))) (.b rfl (.c rfl (.c rfl (.dK aP (.c rfl .nil)))) (.old .mT (.old .mB (.old (.dead _) (.b rfl (.c rfl (.c rfl (.e aB .nil))) (.old (.arr' aQ (aT _)) .nil)))))) rfl) (bP aD [0, 1, 2, 3, 5] rfl (.cons (by simp only [cO, ren, bW, bK, dJ, bN, aQ, aZ, bS, aB, aN, aA, aG, aP]; try rfl) (.cons (congrArg AObj.mp (dS (f := aV) (fun g x => by simp) _ _)) (.cons (congrArg AObj.mp (dS (f := (fun (x : Bool) => .bool x)) (fun g x => rfl) _ _)) (.cons (rfl) (.cons (congrArg (AObj.arr _) (aQ _ _)) .nil))))) ?_))
    conv => whnf
    first | rfl | (simp; done) | (simp; rfl) | (simp; constructor <;> rfl)
   refine rg 1 ?_
   refine Rf (m := p0) (f := aV) hj1 (fun x2 hx2 hj1 => ?_) (fun hx2 hj1 => ?_)
   ·refine ⟨rfl, ?_⟩
    cases hj1
    exact hR2 _ _ (wk [some 0, some 1, some 2, some 3, some 5, some 9, some 7] (.u4 (.u2 (.c rfl (.u8 (.u (.c rfl (.c rfl (.u64 (.u32 (.u8 (.u2 .nil))))))))))) (.b rfl (.c rfl (.c rfl (.dK aP (.c rfl .nil)))) (.old .mT (.old .mB (.old (.dead _) (.b rfl (.c rfl (.c rfl (.c rfl .nil))) (.b rfl (.c rfl (.c rfl (.e aB .nil))) (.old (.arr' aQ (aT _)) .nil))))))) rfl)
   refine ⟨rfl, ?_⟩
   cases hj1
   exact hR2 _ _ (wk [some 0, some 1, some 2, some 3, some 5, some 9, some 7] (.u4 (.u2 (.c rfl (.u8 (.u (.c rfl (.c rfl (.u64 (.u32 (.u8 (.u2 .nil))))))))))) (.b rfl (.c rfl (.c rfl (.dK aP (.c rfl .nil)))) (.old .mT (.old .mB (.old (.dead _) (.b rfl (.c rfl (.c rfl (.c rfl .nil))) (.b rfl (.c rfl (.c rfl (.cons (.share rfl) .nil))) (.old (.arr' aQ (aT _)) .nil))))))) rfl)
  refine .q fun K17 k17 => rg 0 ?_
  refine k17 _ _ ?_
  refine .aC rfl h (fun hc4 h => ?_) (fun hc4 h => ?_)
  ·refine .q fun K18 k18 => .q fun K19 k19 => rg 0 ?_
   obtain ⟨x3, hx3, h⟩ := ob h
   refine bM [0, 1, 2, 7] [] [.ptr 0 0, aV p3.ty] [.ptr 0 0, aV p3.ty] (IZ _ _ _ _ _ _ hx3) ao4 rfl (.cons (by simp only [cO, ren, bW, bK, dJ, bN, aQ, aZ, bS, aB, aN, aA, aG, aP]; try rfl) (.cons (congrArg AObj.mp (dS (f := aV) (fun g x => by simp) _ _)) (.cons (congrArg AObj.mp (dS (f := (fun (x : Bool) => .bool x)) (fun g x => rfl) _ _)) (.cons (congrArg (AObj.arr _) (aQ _ _)) .nil)))) (by simp; try decide) (.cons (.same _) (.cons (.same _) .nil)) (rn := .bool x3) (rfl) (Hn := [.box (.mapr 1 :: (.mapr 2 :: (dD ++ (.psl 7 1 (List.length s2.2.2) :: [])))), .mp (fP p0), .mp (eX p1), .arr 1 (List.map encI s2.2.2)]) ((bI (by simp only [cO, ren, bW, bK, dJ, bN, aQ, aZ, bS, aB, aN, aA, aG, aP]; try rfl) (bI (congrArg AObj.mp (dS (f := aV) (fun g x => by simp) _ _)) (bI (congrArg AObj.mp (dS (f := (fun (x : Bool) => .bool x)) (fun g x => rfl) _ _)) (bI (congrArg (AObj.arr _) (aQ _ _)) rfl))))) ?_
   refine k19 _ _ ?_
   refine .aC rfl h (fun hc5 h => ?_) (fun hc5 h => ?_)
   ·refine .q fun K20 k20 => rg 0 ?_
    refine k20 _ _ ?_
    refine .ret ?_
    have e9 := sj h
    subst e9
    refine hQ _ _ _ (dI (u4 (u2 (.ptr 4 0 :: (.i 6 :: (u64 (u32 (u16 (u4 [])))))))) [.box (.mapr 1 :: (.mapr 2 :: (dD ++ (.psl 5 1 (List.length s2.2.2) :: [])))), .mp (fP p0), .mp (eX p1), .dead, .box [.i 0, .str ([] : Str), .slice (List.map aK ([] : List Ty)) .nils], .arr 1 (List.map encI s2.2.2)] (wk [some 0, some 1, some 2, some 3, some 5, some 7] (.u4 (.u2 (.c rfl (.c rfl (.u64 (.u32 (.u16 (.u4 .nil)))))))) (.b rfl (.c rfl (.c rfl (.dK aP (.c rfl .nil)))) (.old .mT (.old .mB (.old (.dead _) (.b rfl (.c rfl (.c rfl (.c rfl .nil))) (.old (.arr' aQ (aT _)) .nil)))))) rfl) (bP aD [0, 1, 2, 3, 5] rfl (.cons (by simp only [cO, ren, bW, bK, dJ, bN, aQ, aZ, bS, aB, aN, aA, aG, aP]; try rfl) (.cons (congrArg AObj.mp (dS (f := aV) (fun g x => by simp) _ _)) (.cons (congrArg AObj.mp (dS (f := (fun (x : Bool) => .bool x)) (fun g x => rfl) _ _)) (.cons (rfl) (.cons (congrArg (AObj.arr _) (aQ _ _)) .nil))))) ?_))
    conv => whnf
    first | rfl | (simp; done) | (simp; rfl) | (simp; constructor <;> rfl)
   refine .skip ?_
   refine k18 _ _ ?_
   refine .q fun K21 k21 => rg 0 ?_
   refine cp (iR 0 p3.ty _ rfl) wF (.cons (.same _) .nil) ?_
   obtain ⟨x4, hx4, h⟩ := ob h
   refine cp (Ga _ _ _ hx4) ah7 (.cons (.same _) .nil) ?_
   refine k21 _ _ ?_
   refine .ret ?_
   have e9 := sj h
   subst e9
   refine hQ _ _ _ (dI (u4 (u2 (.ptr 4 0 :: (.i x4.2 :: (u64 (u32 (u16 (u4 [])))))))) [.box (.mapr 1 :: (.mapr 2 :: (dD ++ (.psl 5 1 (List.length s2.2.2) :: [])))), .mp (fP p0), .mp (eX p1), .dead, .box [.i x4.1.kind, .str x4.1.name, aI x4.1.kids], .arr 1 (List.map encI s2.2.2)] (wk [some 0, some 1, some 2, some 3, some 5, some 7] (.u4 (.u2 (.c rfl (.c rfl (.u64 (.u32 (.u16 (.u4 .nil)))))))) (.b rfl (.c rfl (.c rfl (.dK aP (.c rfl .nil)))) (.old .mT (.old .mB (.old (.dead _) (.b rfl (.c rfl (.c rfl (.e aB .nil))) (.old (.arr' aQ (aT _)) .nil)))))) rfl) (bP aD [0, 1, 2, 3, 5] rfl (.cons (by simp only [cO, ren, bW, bK, dJ, bN, aQ, aZ, bS, aB, aN, aA, aG, aP]; try rfl) (.cons (congrArg AObj.mp (dS (f := aV) (fun g x => by simp) _ _)) (.cons (congrArg AObj.mp (dS (f := (fun (x : Bool) => .bool x)) (fun g x => rfl) _ _)) (.cons (rfl) (.cons (congrArg (AObj.arr _) (aQ _ _)) .nil))))) ?_))
   conv => whnf
   first | rfl | (simp; done) | (simp; rfl) | (simp; constructor <;> rfl)
  refine .skip ?_
  refine k5 _ _ ?_
  refine .q fun K22 k22 => ?_
  obtain ⟨s4, hj2, h⟩ := ob h
  have hR3 : ∀ t9 h9, Le 4 t9 h9 (u4 (u2 (.ptr 4 0 :: (u8 (u2 (.unk :: (.ptr 5 0 :: (.bool s4.1 :: (u64 (u32 (u8 []))))))))))) [.box (.mapr 1 :: (.mapr 2 :: (dD ++ (.psl 6 1 (List.length s2.2.2) :: [])))), .mp (fP p0), .mp (eX p1), .dead, .box [.i 0, .str ([] : Str), .slice (List.map aK ([] : List Ty)) .nils], .box [.i s4.2.1, .str s4.2.2.1, aI s4.2.2.2], .arr 1 (List.map encI s2.2.2)] → K22 t9 h9 := by
   intro t9 h9 hw
   refine k22 _ _ (AW.le hw ?_)
   clear hw
   refine .q fun K23 k23 => .q fun K24 k24 => rg 0 ?_
   refine k24 _ _ ?_
   refine .aC rfl h (fun hc6 h => ?_) (fun hc6 h => ?_)
   ·refine .q fun K25 k25 => rg 0 ?_
    refine k25 _ _ ?_
    refine .ret ?_
    have e9 := sj h
    subst e9
    refine hQ _ _ _ (dI (u4 (u2 (.ptr 4 0 :: (.i 7 :: (u64 (u32 (u16 (u4 [])))))))) [.box (.mapr 1 :: (.mapr 2 :: (dD ++ (.psl 5 1 (List.length s2.2.2) :: [])))), .mp (fP p0), .mp (eX p1), .dead, .box [.i 0, .str ([] : Str), .slice (List.map aK ([] : List Ty)) .nils], .arr 1 (List.map encI s2.2.2)] (wk [some 0, some 1, some 2, some 3, some 4, some 6] (.u4 (.u2 (.c rfl (.c rfl (.u64 (.u32 (.u16 (.u4 .nil)))))))) (.b rfl (.c rfl (.c rfl (.dK aP (.c rfl .nil)))) (.old .mT (.old .mB (.old (.dead _) (.b rfl (.c rfl (.c rfl (.c rfl .nil))) (.old (.arr' aQ (aT _)) .nil)))))) rfl) (bP aD [0, 1, 2, 3, 5] rfl (.cons (by simp only [cO, ren, bW, bK, dJ, bN, aQ, aZ, bS, aB, aN, aA, aG, aP]; try rfl) (.cons (congrArg AObj.mp (dS (f := aV) (fun g x => by simp) _ _)) (.cons (congrArg AObj.mp (dS (f := (fun (x : Bool) => .bool x)) (fun g x => rfl) _ _)) (.cons (rfl) (.cons (congrArg (AObj.arr _) (aQ _ _)) .nil))))) ?_))
    conv => whnf
    first | rfl | (simp; done) | (simp; rfl) | (simp; constructor <;> rfl)
   refine .skip ?_
   refine k23 _ _ ?_
   refine .q fun K26 k26 => rg 0 ?_
   obtain ⟨x5, hx5, h⟩ := ob h
   refine cp (Ga _ _ _ hx5) ah7 (.cons (.same _) .nil) ?_
   refine k26 _ _ ?_
   refine .ret ?_
   have e9 := sj h
   subst e9
   refine hQ _ _ _ (dI (u4 (u2 (.ptr 4 0 :: (.i x5.2 :: (u64 (u32 (u16 (u4 [])))))))) [.box (.mapr 1 :: (.mapr 2 :: (dD ++ (.psl 5 1 (List.length s2.2.2) :: [])))), .mp (fP p0), .mp (eX p1), .dead, .box [.i x5.1.kind, .str x5.1.name, aI x5.1.kids], .arr 1 (List.map encI s2.2.2)] (wk [some 0, some 1, some 2, some 3, some 4, some 6] (.u4 (.u2 (.c rfl (.c rfl (.u64 (.u32 (.u16 (.u4 .nil)))))))) (.b rfl (.c rfl (.c rfl (.dK aP (.c rfl .nil)))) (.old .mT (.old .mB (.old (.dead _) (.b rfl (.c rfl (.c rfl (.e aB .nil))) (.old (.arr' aQ (aT _)) .nil)))))) rfl) (bP aD [0, 1, 2, 3, 5] rfl (.cons (by simp only [cO, ren, bW, bK, dJ, bN, aQ, aZ, bS, aB, aN, aA, aG, aP]; try rfl) (.cons (congrArg AObj.mp (dS (f := aV) (fun g x => by simp) _ _)) (.cons (congrArg AObj.mp (dS (f := (fun (x : Bool) => .bool x)) (fun g x => rfl) _ _)) (.cons (rfl) (.cons (congrArg (AObj.arr _) (aQ _ _)) .nil))))) ?_))
   conv => whnf
   first | rfl | (simp; done) | (simp; rfl) | (simp; constructor <;> rfl)
  refine rg 1 ?_
  rcases cK hj2 with ⟨hc7, hj2⟩ | ⟨hc7, hj2⟩
  ·refine d9 hc7 (by decide) ?_
   exact absurd hj2 (by simp)
  rcases cK hj2 with ⟨hc8, hj2⟩ | ⟨hc8, hj2⟩
  ·refine d9 hc8 (by decide) ?_
   refine cp (xD 0 s2.2.1 2 ([] : Str) ([]) _ rfl) ZP (.cons (.share _ _) (.cons (.same _) .nil)) ?_
   refine ⟨rfl, ?_⟩
   cases hj2
   exact t15x0 (hR3 _ _)
  rcases cK hj2 with ⟨hc9, hj2⟩ | ⟨hc9, hj2⟩
  ·refine d9 hc9 (by decide) ?_
   refine cp (xD 0 s2.2.1 2 ([] : Str) ([]) _ rfl) ZP (.cons (.share _ _) (.cons (.same _) .nil)) ?_
   refine ⟨rfl, ?_⟩
   cases hj2
   exact t15x0 (hR3 _ _)
  rcases cK hj2 with ⟨hc10, hj2⟩ | ⟨hc10, hj2⟩
  ·refine d9 hc10 (by decide) ?_
   obtain ⟨x6, hx6, hj2⟩ := ob hj2
   refine cp (eO _ _ _ _ _ _ _ hx6) oZ (.cons (.share _ _) (.cons (.same _) (.cons (.same _) .nil))) ?_
   refine ⟨rfl, ?_⟩
   cases hj2
   exact t15x0 (hR3 _ _)
  rcases cK hj2 with ⟨hc11, hj2⟩ | ⟨hc11, hj2⟩
  ·refine d9 hc11 (by decide) ?_
   obtain ⟨x7, hx7, hj2⟩ := ob hj2
   refine cp (eO _ _ _ _ _ _ _ hx7) oZ (.cons (.share _ _) (.cons (.same _) (.cons (.same _) .nil))) ?_
   refine ⟨rfl, ?_⟩
   cases hj2
   exact t15x0 (hR3 _ _)
  rcases cK hj2 with ⟨hc12, hj2⟩ | ⟨hc12, hj2⟩
  ·refine d9 hc12 (by decide) ?_
   obtain ⟨x8, hx8, hj2⟩ := ob hj2
   refine cp (eO _ _ _ _ _ _ _ hx8) oZ (.cons (.share _ _) (.cons (.same _) (.cons (.same _) .nil))) ?_
   refine ⟨rfl, ?_⟩
   cases hj2
   exact t15x0 (hR3 _ _)
  rcases cK hj2 with ⟨hc13, hj2⟩ | ⟨hc13, hj2⟩
  ·refine d9 hc13 (by decide) ?_
   obtain ⟨x9, hx9, hj2⟩ := ob hj2
   refine cp (eO _ _ _ _ _ _ _ hx9) oZ (.cons (.share _ _) (.cons (.same _) (.cons (.same _) .nil))) ?_
   refine ⟨rfl, ?_⟩
   cases hj2
   exact t15x0 (hR3 _ _)
  rcases cK hj2 with ⟨hc14, hj2⟩ | ⟨hc14, hj2⟩
  ·refine d9 hc14 (by decide) ?_
   obtain ⟨x10, hx10, hj2⟩ := ob hj2
   refine cp (eO _ _ _ _ _ _ _ hx10) oZ (.cons (.share _ _) (.cons (.same _) (.cons (.same _) .nil))) ?_
   refine ⟨rfl, ?_⟩
   cases hj2
   exact t15x0 (hR3 _ _)
  rcases cK hj2 with ⟨hc15, hj2⟩ | ⟨hc15, hj2⟩
  ·refine d9 hc15 (by decide) ?_
   obtain ⟨x11, hx11, hj2⟩ := ob hj2
   refine cp (FB _ _ _ hx11) aaT (.cons (.share _ _) (.cons (.same _) .nil)) ?_
   refine ⟨rfl, ?_⟩
   cases hj2
   exact t15x0 (hR3 _ _)
  rcases cK hj2 with ⟨hc16, hj2⟩ | ⟨hc16, hj2⟩
  ·refine d9 hc16 (by decide) ?_
   obtain ⟨x12, hx12, hj2⟩ := ob hj2
   refine cp (FB _ _ _ hx12) aaT (.cons (.share _ _) (.cons (.same _) .nil)) ?_
   refine ⟨rfl, ?_⟩
   cases hj2
   exact t15x0 (hR3 _ _)
  rcases cK hj2 with ⟨hc17, hj2⟩ | ⟨hc17, hj2⟩
  ·refine d9 hc17 (by decide) ?_
   obtain ⟨x13, hx13, hj2⟩ := ob hj2
   refine cp (Ia _ _ _ hx13) ahN (.cons (.share _ _) .nil) ?_
   refine ⟨rfl, ?_⟩
   cases hj2
   exact t15x0 (hR3 _ _)
  rcases cK hj2 with ⟨hc18, hj2⟩ | ⟨hc18, hj2⟩
  ·refine d9 hc18 (by decide) ?_
   obtain ⟨x14, hx14, hj2⟩ := ob hj2
   refine cp (Ia _ _ _ hx14) ahN (.cons (.share _ _) .nil) ?_
   refine ⟨rfl, ?_⟩
   cases hj2
   exact t15x0 (hR3 _ _)
  rcases cK hj2 with ⟨hc19, hj2⟩ | ⟨hc19, hj2⟩
  ·refine d9 hc19 (by decide) ?_
   obtain ⟨x15, hx15, hj2⟩ := ob hj2
   refine cp (eO _ _ _ _ _ _ _ hx15) oZ (.cons (.share _ _) (.cons (.same _) (.cons (.same _) .nil))) ?_
   refine ⟨rfl, ?_⟩
   cases hj2
   exact t15x0 (hR3 _ _)
  rcases cK hj2 with ⟨hc20, hj2⟩ | ⟨hc20, hj2⟩
  ·refine d9 hc20 (by decide) ?_
   obtain ⟨x16, hx16, hj2⟩ := ob hj2
   refine cp (eO _ _ _ _ _ _ _ hx16) oZ (.cons (.share _ _) (.cons (.same _) (.cons (.same _) .nil))) ?_
   refine ⟨rfl, ?_⟩
   cases hj2
   exact t15x0 (hR3 _ _)
  rcases cK hj2 with ⟨hc21, hj2⟩ | ⟨hc21, hj2⟩
  ·refine d9 hc21 (by decide) ?_
   obtain ⟨x17, hx17, hj2⟩ := ob hj2
   refine cp (eO _ _ _ _ _ _ _ hx17) oZ (.cons (.share _ _) (.cons (.same _) (.cons (.same _) .nil))) ?_
   refine ⟨rfl, ?_⟩
   cases hj2
   exact t15x0 (hR3 _ _)
  rcases cK hj2 with ⟨hc22, hj2⟩ | ⟨hc22, hj2⟩
  ·refine d9 hc22 (by decide) ?_
   obtain ⟨x18, hx18, hj2⟩ := ob hj2
   refine cp (eO _ _ _ _ _ _ _ hx18) oZ (.cons (.share _ _) (.cons (.same _) (.cons (.same _) .nil))) ?_
   refine ⟨rfl, ?_⟩
   cases hj2
   exact t15x0 (hR3 _ _)
  rcases cK hj2 with ⟨hc23, hj2⟩ | ⟨hc23, hj2⟩
  ·refine d9 hc23 (by decide) ?_
   obtain ⟨x19, hx19, hj2⟩ := ob hj2
   refine cp (HY _ _ _ hx19) ahR (.cons (.share _ _) .nil) ?_
   refine ⟨rfl, ?_⟩
   cases hj2
   exact t15x0 (hR3 _ _)
  rcases cK hj2 with ⟨hc24, hj2⟩ | ⟨hc24, hj2⟩
  ·refine d9 hc24 (by decide) ?_
   obtain ⟨x20, hx20, hj2⟩ := ob hj2
   refine cp (HY _ _ _ hx20) ahR (.cons (.share _ _) .nil) ?_
   refine ⟨rfl, ?_⟩
   cases hj2
   exact t15x0 (hR3 _ _)
  rcases cK hj2 with ⟨hc25, hj2⟩ | ⟨hc25, hj2⟩
  ·refine d9 hc25 (by decide) ?_
   obtain ⟨x21, hx21, hj2⟩ := ob hj2
   refine cp (Qm _ _ _ hx21) Rs (.cons (.share _ _) (.cons (.same _) .nil)) ?_
   refine ⟨rfl, ?_⟩
   cases hj2
   exact t15x0 (hR3 _ _)
  rcases cK hj2 with ⟨hc26, hj2⟩ | ⟨hc26, hj2⟩
  ·refine d9 hc26 (by decide) ?_
   refine cp (xD 0 s2.2.1 1 ([] : Str) ([]) _ rfl) ZP (.cons (.share _ _) (.cons (.same _) .nil)) ?_
   refine ⟨rfl, ?_⟩
   cases hj2
   exact t15x0 (hR3 _ _)
  rcases cK hj2 with ⟨hc27, hj2⟩ | ⟨hc27, hj2⟩
  ·refine d9 hc27 (by decide) ?_
   exact absurd hj2 (by simp)
  rcases cK hj2 with ⟨hc28, hj2⟩ | ⟨hc28, hj2⟩
  ·refine d9 hc28 (by decide) ?_
   obtain ⟨x22, hx22, hj2⟩ := ob hj2
   refine cp (eO _ _ _ _ _ _ _ hx22) oZ (.cons (.share _ _) (.cons (.same _) (.cons (.same _) .nil))) ?_
   refine ⟨rfl, ?_⟩
   cases hj2
   exact t15x0 (hR3 _ _)
  rcases cK hj2 with ⟨hc29, hj2⟩ | ⟨hc29, hj2⟩
  ·refine d9 hc29 (by decide) ?_
   obtain ⟨x23, hx23, hj2⟩ := ob hj2
   refine cp (eO _ _ _ _ _ _ _ hx23) oZ (.cons (.share _ _) (.cons (.same _) (.cons (.same _) .nil))) ?_
   refine ⟨rfl, ?_⟩
   cases hj2
   exact t15x0 (hR3 _ _)
  rcases cK hj2 with ⟨hc30, hj2⟩ | ⟨hc30, hj2⟩
  ·refine d9 hc30 (by decide) ?_
   obtain ⟨x24, hx24, hj2⟩ := ob hj2
   refine cp (eO _ _ _ _ _ _ _ hx24) oZ (.cons (.share _ _) (.cons (.same _) (.cons (.same _) .nil))) ?_
   refine ⟨rfl, ?_⟩
   cases hj2
   exact t15x0 (hR3 _ _)
  rcases cK hj2 with ⟨hc31, hj2⟩ | ⟨hc31, hj2⟩
  ·refine d9 hc31 (by decide) ?_
   obtain ⟨x25, hx25, hj2⟩ := ob hj2
   refine cp (eO _ _ _ _ _ _ _ hx25) oZ (.cons (.share _ _) (.cons (.same _) (.cons (.same _) .nil))) ?_
   refine ⟨rfl, ?_⟩
   cases hj2
   exact t15x0 (hR3 _ _)
  rcases cK hj2 with ⟨hc32, hj2⟩ | ⟨hc32, hj2⟩
  ·refine d9 hc32 (by decide) ?_
   obtain ⟨x26, hx26, hj2⟩ := ob hj2
   refine cp (eO _ _ _ _ _ _ _ hx26) oZ (.cons (.share _ _) (.cons (.same _) (.cons (.same _) .nil))) ?_
   refine ⟨rfl, ?_⟩
   cases hj2
   exact t15x0 (hR3 _ _)
  rcases cK hj2 with ⟨hc33, hj2⟩ | ⟨hc33, hj2⟩
  ·refine d9 hc33 (by decide) ?_
   obtain ⟨x27, hx27, hj2⟩ := ob hj2
   refine cp (eO _ _ _ _ _ _ _ hx27) oZ (.cons (.share _ _) (.cons (.same _) (.cons (.same _) .nil))) ?_
   refine ⟨rfl, ?_⟩
   cases hj2
   exact t15x0 (hR3 _ _)
  rcases cK hj2 with ⟨hc34, hj2⟩ | ⟨hc34, hj2⟩
  ·refine d9 hc34 (by decide) ?_
   obtain ⟨x28, hx28, hj2⟩ := ob hj2
   refine cp (UW _ _ _ hx28) aoS (.cons (.share _ _) .nil) ?_
   refine ⟨rfl, ?_⟩
   cases hj2
   exact t15x0 (hR3 _ _)
  rcases cK hj2 with ⟨hc35, hj2⟩ | ⟨hc35, hj2⟩
  ·refine d9 hc35 (by decide) ?_
   obtain ⟨x29, hx29, hj2⟩ := ob hj2
   refine cp (Vx _ _ _ hx29) aoY (.cons (.share _ _) .nil) ?_
   refine ⟨rfl, ?_⟩
   cases hj2
   exact t15x0 (hR3 _ _)
  rcases cK hj2 with ⟨hc36, hj2⟩ | ⟨hc36, hj2⟩
  ·refine d9 hc36 (by decide) ?_
   exact absurd hj2 (by simp)
  rcases cK hj2 with ⟨hc37, hj2⟩ | ⟨hc37, hj2⟩
  ·refine d9 hc37 (by decide) ?_
   obtain ⟨x30, hx30, hj2⟩ := ob hj2
   refine cp (eO _ _ _ _ _ _ _ hx30) oZ (.cons (.share _ _) (.cons (.same _) (.cons (.same _) .nil))) ?_
   refine ⟨rfl, ?_⟩
   cases hj2
   exact t15x0 (hR3 _ _)
  rcases cK hj2 with ⟨hc38, hj2⟩ | ⟨hc38, hj2⟩
  ·refine d9 hc38 (by decide) ?_
   obtain ⟨x31, hx31, hj2⟩ := ob hj2
   refine cp (zq _ _ _ hx31) Rs (.cons (.share _ _) (.cons (.same _) .nil)) ?_
   refine ⟨rfl, ?_⟩
   cases hj2
   exact t15x0 (hR3 _ _)
  rcases cK hj2 with ⟨hc39, hj2⟩ | ⟨hc39, hj2⟩
  ·refine d9 hc39 (by decide) ?_
   obtain ⟨x32, hx32, hj2⟩ := ob hj2
   refine cp (zq _ _ _ hx32) Rs (.cons (.share _ _) (.cons (.same _) .nil)) ?_
   refine ⟨rfl, ?_⟩
   cases hj2
   exact t15x0 (hR3 _ _)
  rcases cK hj2 with ⟨hc40, hj2⟩ | ⟨hc40, hj2⟩
  ·refine d9 hc40 (by decide) ?_
   obtain ⟨x33, hx33, hj2⟩ := ob hj2
   refine cp (zq _ _ _ hx33) Rs (.cons (.share _ _) (.cons (.same _) .nil)) ?_
   refine ⟨rfl, ?_⟩
   cases hj2
   exact t15x0 (hR3 _ _)
  rcases cK hj2 with ⟨hc41, hj2⟩ | ⟨hc41, hj2⟩
  ·refine d9 hc41 (by decide) ?_
   obtain ⟨x34, hx34, hj2⟩ := ob hj2
   refine cp (Ub _ _ _ hx34) GL (.cons (.share _ _) (.cons (.same _) .nil)) ?_
   refine ⟨rfl, ?_⟩
   cases hj2
   exact t15x0 (hR3 _ _)
  rcases cK hj2 with ⟨hc42, hj2⟩ | ⟨hc42, hj2⟩
  ·refine d9 hc42 (by decide) ?_
   obtain ⟨x35, hx35, hj2⟩ := ob hj2
   refine cp (IK _ _ _ hx35) z8 (.cons (.share _ _) (.cons (.same _) .nil)) ?_
   refine ⟨rfl, ?_⟩
   cases hj2
   exact t15x0 (hR3 _ _)
  rcases cK hj2 with ⟨hc43, hj2⟩ | ⟨hc43, hj2⟩
  ·refine d9 hc43 (by decide) ?_
   obtain ⟨x36, hx36, hj2⟩ := ob hj2
   refine cp (Ih _ _ _ hx36) z8 (.cons (.share _ _) (.cons (.same _) .nil)) ?_
   refine ⟨rfl, ?_⟩
   cases hj2
   exact t15x0 (hR3 _ _)
  rcases cK hj2 with ⟨hc44, hj2⟩ | ⟨hc44, hj2⟩
  ·refine d9 hc44 (by decide) ?_
   obtain ⟨x37, hx37, hj2⟩ := ob hj2
   refine cp (Iu _ _ _ hx37) ag8 (.cons (.share _ _) .nil) ?_
   refine ⟨rfl, ?_⟩
   cases hj2
   exact t15x0 (hR3 _ _)
  rcases cK hj2 with ⟨hc45, hj2⟩ | ⟨hc45, hj2⟩
  ·refine d9 hc45 (by decide) ?_
   obtain ⟨x38, hx38, hj2⟩ := ob hj2
   refine cp (Iu _ _ _ hx38) ag8 (.cons (.share _ _) .nil) ?_
   refine ⟨rfl, ?_⟩
   cases hj2
   exact t15x0 (hR3 _ _)
  rcases cK hj2 with ⟨hc46, hj2⟩ | ⟨hc46, hj2⟩
  ·refine d9 hc46 (by decide) ?_
   obtain ⟨x39, hx39, hj2⟩ := ob hj2
   refine cp (zL _ _ _ hx39) z8 (.cons (.share _ _) (.cons (.same _) .nil)) ?_
   refine ⟨rfl, ?_⟩
   cases hj2
   exact t15x0 (hR3 _ _)
  rcases cK hj2 with ⟨hc47, hj2⟩ | ⟨hc47, hj2⟩
  ·refine d9 hc47 (by decide) ?_
   obtain ⟨x40, hx40, hj2⟩ := ob hj2
   refine cp (zL _ _ _ hx40) z8 (.cons (.share _ _) (.cons (.same _) .nil)) ?_
   refine ⟨rfl, ?_⟩
   cases hj2
   exact t15x0 (hR3 _ _)
  rcases cK hj2 with ⟨hc48, hj2⟩ | ⟨hc48, hj2⟩
  ·refine d9 hc48 (by decide) ?_
   obtain ⟨x41, hx41, hj2⟩ := ob hj2
   refine cp (rV _ _ _ hx41) GL (.cons (.share _ _) (.cons (.same _) .nil)) ?_
   refine ⟨rfl, ?_⟩
   cases hj2
   exact t15x0 (hR3 _ _)
  rcases cK hj2 with ⟨hc49, hj2⟩ | ⟨hc49, hj2⟩
  ·refine d9 hc49 (by decide) ?_
   obtain ⟨x42, hx42, hj2⟩ := ob hj2
   refine cp (rV _ _ _ hx42) GL (.cons (.share _ _) (.cons (.same _) .nil)) ?_
   refine ⟨rfl, ?_⟩
   cases hj2
   exact t15x0 (hR3 _ _)
  rcases cK hj2 with ⟨hc50, hj2⟩ | ⟨hc50, hj2⟩
  ·refine d9 hc50 (by decide) ?_
   obtain ⟨x43, hx43, hj2⟩ := ob hj2
   refine cp (rV _ _ _ hx43) GL (.cons (.share _ _) (.cons (.same _) .nil)) ?_
   refine ⟨rfl, ?_⟩
   cases hj2
   exact t15x0 (hR3 _ _)
  rcases cK hj2 with ⟨hc51, hj2⟩ | ⟨hc51, hj2⟩
  ·refine d9 hc51 (by decide) ?_
   obtain ⟨x44, hx44, hj2⟩ := ob hj2
   refine cp (rV _ _ _ hx44) GL (.cons (.share _ _) (.cons (.same _) .nil)) ?_
   refine ⟨rfl, ?_⟩
   cases hj2
   exact t15x0 (hR3 _ _)
  rcases cK hj2 with ⟨hc52, hj2⟩ | ⟨hc52, hj2⟩
  ·refine d9 hc52 (by decide) ?_
   obtain ⟨x45, hx45, hj2⟩ := ob hj2
   refine cp (rV _ _ _ hx45) GL (.cons (.share _ _) (.cons (.same _) .nil)) ?_
   refine ⟨rfl, ?_⟩
   cases hj2
   exact t15x0 (hR3 _ _)
  rcases cK hj2 with ⟨hc53, hj2⟩ | ⟨hc53, hj2⟩
  ·refine d9 hc53 (by decide) ?_
   obtain ⟨x46, hx46, hj2⟩ := ob hj2
   refine cp (OH _ _ _ hx46) Rz (.cons (.share _ _) (.cons (.same _) .nil)) ?_
   refine ⟨rfl, ?_⟩
   cases hj2
   exact t15x0 (hR3 _ _)
  rcases cK hj2 with ⟨hc54, hj2⟩ | ⟨hc54, hj2⟩
  ·refine d9 hc54 (by decide) ?_
   obtain ⟨x47, hx47, hj2⟩ := ob hj2
   refine cp (Oc _ _ _ hx47) Rz (.cons (.share _ _) (.cons (.same _) .nil)) ?_
   refine ⟨rfl, ?_⟩
   cases hj2
   exact t15x0 (hR3 _ _)
  rcases cK hj2 with ⟨hc55, hj2⟩ | ⟨hc55, hj2⟩
  ·refine d9 hc55 (by decide) ?_
   obtain ⟨x48, hx48, hj2⟩ := ob hj2
   refine cp (Em _ _ _ hx48) Rz (.cons (.share _ _) (.cons (.same _) .nil)) ?_
   refine ⟨rfl, ?_⟩
   cases hj2
   exact t15x0 (hR3 _ _)
  rcases cK hj2 with ⟨hc56, hj2⟩ | ⟨hc56, hj2⟩
  ·refine d9 hc56 (by decide) ?_
   obtain ⟨x49, hx49, hj2⟩ := ob hj2
   refine cp (Em _ _ _ hx49) Rz (.cons (.share _ _) (.cons (.same _) .nil)) ?_
   refine ⟨rfl, ?_⟩
   cases hj2
   exact t15x0 (hR3 _ _)
  rcases cK hj2 with ⟨hc57, hj2⟩ | ⟨hc57, hj2⟩
  ·refine d9 hc57 (by decide) ?_
   obtain ⟨x50, hx50, hj2⟩ := ob hj2
   refine cp (Io _ _ _ hx50) z8 (.cons (.share _ _) (.cons (.same _) .nil)) ?_
   refine ⟨rfl, ?_⟩
   cases hj2
   exact t15x0 (hR3 _ _)
  rcases cK hj2 with ⟨hc58, hj2⟩ | ⟨hc58, hj2⟩
  ·refine d9 hc58 (by decide) ?_
   obtain ⟨x51, hx51, hj2⟩ := ob hj2
   refine cp (GY _ _ _ hx51) z8 (.cons (.share _ _) (.cons (.same _) .nil)) ?_
   refine ⟨rfl, ?_⟩
   cases hj2
   exact t15x0 (hR3 _ _)
  rcases cK hj2 with ⟨hc59, hj2⟩ | ⟨hc59, hj2⟩
  ·refine d9 hc59 (by decide) ?_
   obtain ⟨x52, hx52, hj2⟩ := ob hj2
   refine cp (Hw _ _ _ hx52) z8 (.cons (.share _ _) (.cons (.same _) .nil)) ?_
   refine ⟨rfl, ?_⟩
   cases hj2
   exact t15x0 (hR3 _ _)
  rcases cK hj2 with ⟨hc60, hj2⟩ | ⟨hc60, hj2⟩
  ·refine d9 hc60 (by decide) ?_
   obtain ⟨x53, hx53, hj2⟩ := ob hj2
   refine cp (IJ _ _ _ hx53) z8 (.cons (.share _ _) (.cons (.same _) .nil)) ?_
   refine ⟨rfl, ?_⟩
   cases hj2
   exact t15x0 (hR3 _ _)
  rcases cK hj2 with ⟨hc61, hj2⟩ | ⟨hc61, hj2⟩
  ·refine d9 hc61 (by decide) ?_
   obtain ⟨x54, hx54, hj2⟩ := ob hj2
   refine cp (Hu _ _ _ hx54) z8 (.cons (.share _ _) (.cons (.same _) .nil)) ?_
   refine ⟨rfl, ?_⟩
   cases hj2
   exact t15x0 (hR3 _ _)
  rcases cK hj2 with ⟨hc62, hj2⟩ | ⟨hc62, hj2⟩
  ·refine d9 hc62 (by decide) ?_
   obtain ⟨x55, hx55, hj2⟩ := ob hj2
   refine cp (QN _ _ _ hx55) aaT (.cons (.share _ _) (.cons (.same _) .nil)) ?_
   refine ⟨rfl, ?_⟩
   cases hj2
   exact t15x0 (hR3 _ _)
  rcases cK hj2 with ⟨hc63, hj2⟩ | ⟨hc63, hj2⟩
  ·refine d9 hc63 (by decide) ?_
   obtain ⟨x56, hx56, hj2⟩ := ob hj2
   refine cp (Sr _ _ _ hx56) apK (.cons (.share _ _) .nil) ?_
   refine ⟨rfl, ?_⟩
   cases hj2
   exact t15x0 (hR3 _ _)
  exact absurd hj2 (by simp)
 refine .loopS (lU n rec_typing_checker_of rec_typing_checker_child p0 p1 p3) (fun (s1 : (List Decl) × (List Ty) × Int × (List Int)) => (.ptr 0 0 :: (.unk :: (.flist (List.map aO s1.1) :: (.unk :: (.ptr 4 0 :: (.unk :: (.ptr 5 0 :: (.unk :: (.slice (List.map aK s1.2.1) (.tip 6 3) :: (u8 (u4 (.unk :: (.i (p3.kids.length : Int) :: (.i s1.2.2.1 :: (u64 (u32 (u4 [])))))))))))))))))) (fun (s1 : (List Decl) × (List Ty) × Int × (List Int)) => [.box (.mapr 1 :: (.mapr 2 :: (dD ++ (.psl 7 1 (List.length s1.2.2.2) :: [])))), .mp (fP p0), .mp (eX p1), .dead, .box [.i p3.op, .str p3.name, .i p3.n, .i p3.ty.kind, .str p3.ty.name, aI p3.ty.kids, bn p3.kids], .box [.i 0, .str ([] : Str), .slice (List.map aK ([] : List Ty)) .nils], .tip (List.length s1.2.1 * 3), .arr 1 (List.map encI s1.2.2.2)]) ho1 (fun _ => rfl) (wk [some 0, some 1, some 2, some 3, some 4, some 5, none, some 3] (.c rfl (.u (.cons (.flS (aG _ _)) (.u (.c rfl (.u (.c rfl (.u (.cons (.nils _ _) (.u8 (.u4 (.u (.c rfl (.c rfl (.u64 (.u32 (.u4 .nil))))))))))))))))) (.b rfl (.c rfl (.c rfl (.dK aP (.c rfl .nil)))) (.old .mT (.old .mB (.old (.dead _) (.b rfl (.c rfl (.c rfl (.c rfl (.c rfl (.c rfl (.e aB (.e aN .nil))))))) (.b rfl (.c rfl (.c rfl (.c rfl .nil))) (.w rfl (.old (.arr' aQ (aT _)) .nil)))))))) rfl) ?_
 intro n1 s1 hs1 KL1 hKL1
 unfold lU at hs1
 refine .q fun K27 k27 => rg 0 ?_
 refine k27 _ _ ?_
 refine .q fun K28 k28 => ?_
 refine .aC rfl hs1 (fun hc64 hs1 => ?_) (fun hc64 hs1 => ?_)
 ·refine .skip ?_
  refine k28 _ _ ?_
  refine .q fun K29 k29 => ?_
  obtain ⟨o2, hj3, hs1⟩ := ob hs1
  have hR4 : ∀ s5 : (List Decl) × (List Ty) × (List Int), o2 = .nx s5 → ∀ t9 h9, Le 4 t9 h9 (.ptr 0 0 :: (.unk :: (.flist (List.map aO s5.1) :: (.unk :: (.ptr 4 0 :: (.unk :: (.ptr 5 0 :: (.unk :: (.slice (List.map aK s5.2.1) (.tip 6 3) :: (u8 (u4 (.unk :: (.i (p3.kids.length : Int) :: (.i s1.2.2.1 :: (u64 (u32 (u4 []))))))))))))))))) [.box (.mapr 1 :: (.mapr 2 :: (dD ++ (.psl 7 1 (List.length s5.2.2) :: [])))), .mp (fP p0), .mp (eX p1), .dead, .box [.i p3.op, .str p3.name, .i p3.n, .i p3.ty.kind, .str p3.ty.name, aI p3.ty.kids, bn p3.kids], .box [.i 0, .str ([] : Str), .slice (List.map aK ([] : List Ty)) .nils], .tip (List.length s5.2.1 * 3), .arr 1 (List.map encI s5.2.2)] → K29 t9 h9 := by
   intro s5 ho
   subst ho
   dsimp only [LR.el] at hs1
   intro t9 h9 hw
   refine k29 _ _ (AW.le hw ?_)
   clear hw
   refine .know 23 0 fun hv1 => ?_
   refine .know 22 0 fun hv2 => ?_
   refine rg 0 ?_
   refine ⟨(s1.2.2.1 + 1), by have := dn hv1; have := dn hv2; have h8 := of_decide_eq_true hc64; exact bG (by omega) (by omega), ?_⟩
   exact hKL1 _ _ _ hs1 (wk [some 0, some 1, some 2, some 3, some 4, some 5, some 6, some 7] (.c rfl (.u (.cons (.flS (aG _ _)) (.u (.c rfl (.u (.c rfl (.u (.cons (.bF (aB _ _) rfl) (.u8 (.u4 (.u (.c rfl (.c rfl (.u64 (.u32 (.u4 .nil))))))))))))))))) (.b rfl (.c rfl (.c rfl (.dK aP (.c rfl .nil)))) (.old .mT (.old .mB (.old (.dead _) (.b rfl (.c rfl (.c rfl (.c rfl (.c rfl (.c rfl (.e aB (.e aN .nil))))))) (.b rfl (.c rfl (.c rfl (.c rfl .nil))) (.t rfl (.old (.arr' aQ (aT _)) .nil)))))))) rfl)
  refine .block ?_
  refine .q fun K30 k30 => rg 0 ?_
  refine k30 _ _ ?_
  refine .q fun K31 k31 => rg 2 ?_
  obtain ⟨x57, hx57, hj3⟩ := ob hj3
  refine bM [0, 1, 2, 7] [8] [.ptr 0 0, bg p3, .i s1.2.2.1, .flist (List.map aO s1.1)] [.ptr 0 0, bg p3, .i s1.2.2.1, .flist (List.map aO s1.1)] (hrec_typing_checker_child _ _ _ _ _ _ _ hx57) aom rfl (.cons (by simp only [cO, ren, bW, bK, dJ, bN, aQ, aZ, bS, aB, aN, aA, aG, aP]; try rfl) (.cons (congrArg AObj.mp (dS (f := aV) (fun g x => by simp) _ _)) (.cons (congrArg AObj.mp (dS (f := (fun (x : Bool) => .bool x)) (fun g x => rfl) _ _)) (.cons (congrArg (AObj.arr _) (aQ _ _)) .nil)))) (by simp; try decide) (.cons (.same _) (.cons (.same _) (.cons (.same _) (.cons (.same _) .nil)))) (rn := .bq [aV x57.1, .i x57.2.1]) (by simp; try decide) (Hn := [.box (.mapr 1 :: (.mapr 2 :: (dD ++ (.psl 8 1 (List.length x57.2.2) :: [])))), .mp (fP p0), .mp (eX p1), .dead, .arr 1 (List.map encI x57.2.2)]) ((bI (by simp only [cO, ren, bW, bK, dJ, bN, aQ, aZ, bS, aB, aN, aA, aG, aP]; try rfl) (bI (congrArg AObj.mp (dS (f := aV) (fun g x => by simp) _ _)) (bI (congrArg AObj.mp (dS (f := (fun (x : Bool) => .bool x)) (fun g x => rfl) _ _)) (bI (rfl) (bI (congrArg (AObj.arr _) (aQ _ _)) rfl)))))) ?_
  refine k31 _ _ ?_
  refine .q fun K32 k32 => .q fun K33 k33 => rg 0 ?_
  refine k33 _ _ ?_
  refine .aC rfl hj3 (fun hc65 hj3 => ?_) (fun hc65 hj3 => ?_)
  ·refine .q fun K34 k34 => rg 0 ?_
   refine k34 _ _ ?_
   refine .ret ?_
   have e9 := sj hj3
   subst e9
   dsimp only [LR.el] at hs1
   have e9 := sj hs1
   subst e9
   dsimp only [LR.el] at h
   have e9 := sj h
   subst e9
   refine hQ _ _ _ (dI (u4 (u2 (.ptr 4 0 :: (.i x57.2.1 :: (u64 (u32 (u16 (u4 [])))))))) [.box (.mapr 1 :: (.mapr 2 :: (dD ++ (.psl 5 1 (List.length x57.2.2) :: [])))), .mp (fP p0), .mp (eX p1), .dead, .box [.i 0, .str ([] : Str), .slice (List.map aK ([] : List Ty)) .nils], .arr 1 (List.map encI x57.2.2)] (wk [some 0, some 1, some 2, some 3, some 5, some 8] (.u4 (.u2 (.c rfl (.c rfl (.u64 (.u32 (.u16 (.u4 .nil)))))))) (.b rfl (.c rfl (.c rfl (.dK aP (.c rfl .nil)))) (.old .mT (.old .mB (.old (.dead _) (.b rfl (.c rfl (.c rfl (.c rfl .nil))) (.old (.arr' aQ (aT _)) .nil)))))) rfl) (bP aD [0, 1, 2, 3, 5] rfl (.cons (by simp only [cO, ren, bW, bK, dJ, bN, aQ, aZ, bS, aB, aN, aA, aG, aP]; try rfl) (.cons (congrArg AObj.mp (dS (f := aV) (fun g x => by simp) _ _)) (.cons (congrArg AObj.mp (dS (f := (fun (x : Bool) => .bool x)) (fun g x => rfl) _ _)) (.cons (rfl) (.cons (congrArg (AObj.arr _) (aQ _ _)) .nil))))) ?_))
   conv => whnf
   first | rfl | (simp; done) | (simp; rfl) | (simp; constructor <;> rfl)
  refine .skip ?_
  refine k32 _ _ ?_
  refine .q fun K35 k35 => rg 2 ?_
  refine ⟨List.map aK ([x57.1]), by simp only [List.map_cons, List.map_nil, aR]; rfl, ?_⟩
  obtain ⟨x58, hx58, hj3⟩ := ob hj3
  refine dW (l := s1.2.1) (ys := [x57.1]) (f := aK) hx58 adU rfl rfl rfl ?_
  refine k35 _ _ ?_
  refine .q fun K36 k36 => ?_
  obtain ⟨s6, hj4, hj3⟩ := ob hj3
  have hR5 : ∀ t9 h9, Le 4 t9 h9 (.ptr 0 0 :: (.unk :: (.flist (List.map aO s1.1) :: (.unk :: (.ptr 4 0 :: (.unk :: (.ptr 5 0 :: (.unk :: (.slice (List.map aK x58) (.tip 6 3) :: (.unk :: (.ptr 7 0 :: (u8 (u2 (.unk :: (.i (p3.kids.length : Int) :: (.i s1.2.2.1 :: (u16 (u8 (.bool s6 :: (u64 (u8 (u2 (.unk :: []))))))))))))))))))))))) [.box (.mapr 1 :: (.mapr 2 :: (dD ++ (.psl 8 1 (List.length x57.2.2) :: [])))), .mp (fP p0), .mp (eX p1), .dead, .box [.i p3.op, .str p3.name, .i p3.n, .i p3.ty.kind, .str p3.ty.name, aI p3.ty.kids, bn p3.kids], .box [.i 0, .str ([] : Str), .slice (List.map aK ([] : List Ty)) .nils], .tip (List.length x58 * 3), .box [.i x57.1.kind, .str x57.1.name, aI x57.1.kids], .arr 1 (List.map encI x57.2.2)] → K36 t9 h9 := by
   intro t9 h9 hw
   refine k36 _ _ (AW.le hw ?_)
   clear hw
   refine .aC rfl hj3 (fun hc66 hj3 => ?_) (fun hc66 hj3 => ?_)
   ·refine .q fun K37 k37 => rg 1 ?_
    obtain ⟨x59, hx59, hj3⟩ := ob hj3
    refine cp (eB _ _ _ hx59) ru (.cons (.same _) .nil) ?_
    refine k37 _ _ ?_
    refine .q fun K38 k38 => .q fun K39 k39 => rg 0 ?_
    refine k39 _ _ ?_
    refine .aC rfl hj3 (fun hc67 hj3 => ?_) (fun hc67 hj3 => ?_)
    ·refine .q fun K40 k40 => rg 0 ?_
     refine k40 _ _ ?_
     refine .ret ?_
     have e9 := sj hj3
     subst e9
     dsimp only [LR.el] at hs1
     have e9 := sj hs1
     subst e9
     dsimp only [LR.el] at h
     have e9 := sj h
     subst e9
     refine hQ _ _ _ (dI (u4 (u2 (.ptr 4 0 :: (.i 7 :: (u64 (u32 (u16 (u4 [])))))))) [.box (.mapr 1 :: (.mapr 2 :: (dD ++ (.psl 5 1 (List.length x57.2.2) :: [])))), .mp (fP p0), .mp (eX p1), .dead, .box [.i 0, .str ([] : Str), .slice (List.map aK ([] : List Ty)) .nils], .arr 1 (List.map encI x57.2.2)] (wk [some 0, some 1, some 2, some 3, some 5, some 8] (.u4 (.u2 (.c rfl (.c rfl (.u64 (.u32 (.u16 (.u4 .nil)))))))) (.b rfl (.c rfl (.c rfl (.dK aP (.c rfl .nil)))) (.old .mT (.old .mB (.old (.dead _) (.b rfl (.c rfl (.c rfl (.c rfl .nil))) (.old (.arr' aQ (aT _)) .nil)))))) rfl) (bP aD [0, 1, 2, 3, 5] rfl (.cons (by simp only [cO, ren, bW, bK, dJ, bN, aQ, aZ, bS, aB, aN, aA, aG, aP]; try rfl) (.cons (congrArg AObj.mp (dS (f := aV) (fun g x => by simp) _ _)) (.cons (congrArg AObj.mp (dS (f := (fun (x : Bool) => .bool x)) (fun g x => rfl) _ _)) (.cons (rfl) (.cons (congrArg (AObj.arr _) (aQ _ _)) .nil))))) ?_))
     conv => whnf
     first | rfl | (simp; done) | (simp; rfl) | (simp; constructor <;> rfl)
    refine .skip ?_
    refine k38 _ _ ?_
    refine rg 1 ?_
    exact hR4 _ (sj hj3).symm _ _ (wk [some 0, some 1, some 2, some 3, some 4, some 5, some 6, some 8] (.c rfl (.u (.cons (.asj (cs' := [.str p3.name, .i x59.1.kind, .str x59.1.name, aI x59.1.kids]) (v := .flist (List.map aO s1.1)) rfl rfl (.c rfl (.c rfl (.c rfl (.e aB .nil)))) (.flS (aG _ _))) (.u (.c rfl (.u (.c rfl (.u (.cons (.bF (aB _ _) rfl) (.u8 (.u4 (.u (.c rfl (.c rfl (.u64 (.u32 (.u4 .nil))))))))))))))))) (.b rfl (.c rfl (.c rfl (.dK aP (.c rfl .nil)))) (.old .mT (.old .mB (.old (.dead _) (.b rfl (.c rfl (.c rfl (.c rfl (.c rfl (.c rfl (.e aB (.e aN .nil))))))) (.b rfl (.c rfl (.c rfl (.c rfl .nil))) (.t rfl (.old (.arr' aQ (aT _)) .nil)))))))) rfl)
   refine .skip ?_
   exact hR4 _ (sj hj3).symm _ _ (wk [some 0, some 1, some 2, some 3, some 4, some 5, some 6, some 8] (.c rfl (.u (.cons (.flS (aG _ _)) (.u (.c rfl (.u (.c rfl (.u (.cons (.bF (aB _ _) rfl) (.u8 (.u4 (.u (.c rfl (.c rfl (.u64 (.u32 (.u4 .nil))))))))))))))))) (.b rfl (.c rfl (.c rfl (.dK aP (.c rfl .nil)))) (.old .mT (.old .mB (.old (.dead _) (.b rfl (.c rfl (.c rfl (.c rfl (.c rfl (.c rfl (.e aB (.e aN .nil))))))) (.b rfl (.c rfl (.c rfl (.c rfl .nil))) (.t rfl (.old (.arr' aQ (aT _)) .nil)))))))) rfl)
  refine rg 0 ?_
  refine aH hj4 (fun hc68 hj4 => ?_) (fun hc68 hj4 => ?_)
  ·obtain ⟨x60, hx60, hj4⟩ := ob hj4
   refine au (UU _ _ _ hx60) aof (.cons (.same _) .nil) (fun g => rfl) (fun g => rfl) ?_
   cases hj4
   exact t15x1 (hR5 _ _)
  cases hj4
  exact t15x1 (hR5 _ _)
 refine .exit ?_
 exact hR1 _ (sj hs1).symm _ _ (wk [some 0, some 1, some 2, some 3, some 4, some 5, some 6, some 7] (.c rfl (.u (.cons (.flS (aG _ _)) (.u (.c rfl (.u (.c rfl (.u (.cons (.bF (aB _ _) rfl) (.u64 (.u32 (.u16 (.u2 (.u .nil)))))))))))))) (.b rfl (.c rfl (.c rfl (.dK aP (.c rfl .nil)))) (.old .mT (.old .mB (.old (.dead _) (.b rfl (.c rfl (.c rfl (.c rfl (.c rfl (.c rfl (.e aB (.e aN .nil))))))) (.b rfl (.c rfl (.c rfl (.c rfl .nil))) (.t rfl (.old (.arr' aQ (aT _)) .nil)))))))) rfl)
theorem EO (n : Nat) (rec_typing_checker_of : (List (Str × Ty)) → (List (Str × Bool)) → (List Int) → Tm → (List Decl) → Option (Ty × Int × (List Int))) (rec_typing_checker_child : (List (Str × Ty)) → (List (Str × Bool)) → (List Int) → Tm → Int → (List Decl) → Option (Ty × Int × (List Int))) (hrec_typing_checker_of : typing_checker_of_S rec_typing_checker_of) (hrec_typing_checker_child : typing_checker_child_S rec_typing_checker_child) (p0 : List (Str × Ty)) (p1 : List (Str × Bool)) (p2 : List Int) (p3 : Tm) (p4 : Int) (p5 : List Decl) (r : Ty × Int × (List Int)) (h : kQ n rec_typing_checker_of rec_typing_checker_child p0 p1 p2 p3 p4 p5 = some r) : ak Tryz.prog 132 [.ptr 0 0, bg p3, .i p4, .flist (List.map aO p5)] [.box (.mapr 1 :: (.mapr 2 :: (dD ++ (.psl 3 1 (List.length p2) :: [])))), .mp (fP p0), .mp (eX p1), .arr 1 (List.map encI p2)] (.bq [aV r.1, .i r.2.1]) [.box (.mapr 1 :: (.mapr 2 :: (dD ++ (.psl 4 1 (List.length r.2.2) :: [])))), .mp (fP p0), .mp (eX p1), .dead, .arr 1 (List.map encI r.2.2)] := by
 unfold kQ at h
 refine ah true Tryz.func132 rfl (nt Tryz.ntmps132 rfl) fun Q hQ t ht => ?_
 conv at ht => whnf
 subst ht
 refine .q fun K1 k1 => rg 2 ?_
 refine k1 _ _ ?_
 refine .q fun K2 k2 => rg 2 ?_
 refine ⟨List.map encI ([p4]), rfl, ?_⟩
 obtain ⟨x1, hx1, h⟩ := ob h
 refine RN (l := p2) (l' := p2) (ys := ([p4])) (f := encI) hx1 (aT _) aiR ?_
 refine k2 _ _ ?_
 refine .q fun K3 k3 => rg 2 ?_
 obtain ⟨x2, hx2, h⟩ := ob h
 refine aJ (l := p3.kids) (f := aS) (cs := [.i ((x2).op), .str ((x2).name), .i ((x2).n), .i (((x2).ty).kind), .str (((x2).ty).name), aI (((x2).ty).kids), bn ((x2).kids)]) hx2 (aX x2) rfl ?_
 obtain ⟨x3, hx3, h⟩ := ob h
 refine bM [0, 1, 2, 7] [8] [.ptr 0 0, bg x2, .flist (List.map aO p5)] [.ptr 0 0, bg x2, .flist (List.map aO p5)] (hrec_typing_checker_of _ _ _ _ _ _ hx3) al9 rfl (.cons (by simp only [cO, ren, bW, bK, dJ, bN, aQ, aZ, bS, aB, aN, aA, aG, aP]; try rfl) (.cons (congrArg AObj.mp (dS (f := aV) (fun g x => by simp) _ _)) (.cons (congrArg AObj.mp (dS (f := (fun (x : Bool) => .bool x)) (fun g x => rfl) _ _)) (.cons (congrArg (AObj.arr _) (aQ _ _)) .nil)))) (by simp; try decide) (.cons (.same _) (.cons (.same _) (.cons (.same _) .nil))) (rn := .bq [aV x3.1, .i x3.2.1]) (by simp; try decide) (Hn := [.box (.mapr 1 :: (.mapr 2 :: (dD ++ (.psl 8 1 (List.length x3.2.2) :: [])))), .mp (fP p0), .mp (eX p1), .dead, .arr 1 (List.map encI x3.2.2)]) ((bI (by simp only [cO, ren, bW, bK, dJ, bN, aQ, aZ, bS, aB, aN, aA, aG, aP]; try rfl) (bI (congrArg AObj.mp (dS (f := aV) (fun g x => by simp) _ _)) (bI (congrArg AObj.mp (dS (f := (fun (x : Bool) => .bool x)) (fun g x => rfl) _ _)) (bI (rfl) (bI (congrArg (AObj.arr _) (aQ _ _)) rfl)))))) ?_
 refine k3 _ _ ?_
 refine .q fun K4 k4 => ?_
 obtain ⟨s1, hj1, h⟩ := ob h
 have hR1 : ∀ t9 h9, Le 4 t9 h9 (u8 (.ptr 4 0 :: (.unk :: (.ptr 5 0 :: (.i x3.2.1 :: (u32 (u4 (u2 (.unk :: []))))))))) [.box (.mapr 1 :: (.mapr 2 :: (dD ++ (.psl 6 1 (List.length s1) :: [])))), .mp (fP p0), .mp (eX p1), .dead, .box [.i 0, .str ([] : Str), .slice (List.map aK ([] : List Ty)) .nils], .box [.i x3.1.kind, .str x3.1.name, aI x3.1.kids], .arr 1 (List.map encI s1)] → K4 t9 h9 := by
  intro t9 h9 hw
  refine k4 _ _ (AW.le hw ?_)
  clear hw
  refine .q fun K5 k5 => rg 0 ?_
  refine k5 _ _ ?_
  refine .ret ?_
  have e9 := sj h
  subst e9
  refine hQ _ _ _ (dI (u8 (.ptr 4 0 :: (.i x3.2.1 :: (u32 (u8 (.unk :: [])))))) [.box (.mapr 1 :: (.mapr 2 :: (dD ++ (.psl 5 1 (List.length s1) :: [])))), .mp (fP p0), .mp (eX p1), .dead, .box [.i x3.1.kind, .str x3.1.name, aI x3.1.kids], .arr 1 (List.map encI s1)] (wk [some 0, some 1, some 2, some 3, some 4, some 6] (.u8 (.c rfl (.c rfl (.u32 (.u8 (.u .nil)))))) (.b rfl (.c rfl (.c rfl (.dK aP (.c rfl .nil)))) (.old .mT (.old .mB (.old (.dead _) (.b rfl (.c rfl (.c rfl (.e aB .nil))) (.old (.arr' aQ (aT _)) .nil)))))) rfl) (bP aD [0, 1, 2, 3, 5] rfl (.cons (by simp only [cO, ren, bW, bK, dJ, bN, aQ, aZ, bS, aB, aN, aA, aG, aP]; try rfl) (.cons (congrArg AObj.mp (dS (f := aV) (fun g x => by simp) _ _)) (.cons (congrArg AObj.mp (dS (f := (fun (x : Bool) => .bool x)) (fun g x => rfl) _ _)) (.cons (rfl) (.cons (congrArg (AObj.arr _) (aQ _ _)) .nil))))) ?_))
  conv => whnf
  first | rfl | (simp; done) | (simp; rfl) | (simp; constructor <;> rfl)
 refine .q fun K6 k6 => rg 0 ?_
 refine k6 _ _ ?_
 refine .aC rfl hj1 (fun hc1 hj1 => ?_) (fun hc1 hj1 => ?_)
 ·refine rg 0 ?_
  refine ⟨(IntKind.wrap .i64 ((x3.2.2.length : Int) - 1)), rfl, ?_⟩
  obtain ⟨x4, hx4, hj1⟩ := ob hj1
  refine aop hx4 ?_
  refine ⟨rfl, ?_⟩
  cases hj1
  exact hR1 _ _ (wk [some 0, some 1, some 2, some 3, some 5, some 9, some 8] (.u8 (.c rfl (.u (.c rfl (.c rfl (.u32 (.u4 (.u2 (.u .nil))))))))) (.b rfl (.c rfl (.c rfl (.dK aP (.c rfl .nil)))) (.old .mT (.old .mB (.old (.dead _) (.b rfl (.c rfl (.c rfl (.c rfl .nil))) (.b rfl (.c rfl (.c rfl (.e aB .nil))) (.old (.arr' aQ (amY hx4 (aT _))) .nil))))))) rfl)
 refine .skip ?_
 cases hj1
 exact hR1 _ _ (wk [some 0, some 1, some 2, some 3, some 5, some 9, some 8] (.u8 (.c rfl (.u (.c rfl (.c rfl (.u32 (.u4 (.u2 (.u .nil))))))))) (.b rfl (.c rfl (.c rfl (.dK aP (.c rfl .nil)))) (.old .mT (.old .mB (.old (.dead _) (.b rfl (.c rfl (.c rfl (.c rfl .nil))) (.b rfl (.c rfl (.c rfl (.e aB .nil))) (.old (.arr' aQ (aT _)) .nil))))))) rfl)
theorem CY (n : Nat) : typing_checker_of_S (iL n) ∧ typing_checker_child_S (gH n) := by
 induction n with
 | zero => exact ⟨(fun p0 p1 p2 p3 p4 r h => by unfold iL at h; cases h), (fun p0 p1 p2 p3 p4 p5 r h => by unfold gH at h; cases h)⟩
 | succ n ih =>
  exact ⟨(fun p0 p1 p2 p3 p4 r h => Gb n _ _ ih.1 ih.2 p0 p1 p2 p3 p4 r (by unfold iL at h; exact h)), (fun p0 p1 p2 p3 p4 p5 r h => EO n _ _ ih.1 ih.2 p0 p1 p2 p3 p4 p5 r (by unfold gH at h; exact h))⟩
theorem MU (n : Nat) : typing_checker_of_S (iL n) := (CY n).1
end Abs
end Go.Proofs.YtiiaccpcoclklaaGreat
