/-
  Contracts of Go functions (printed). Conditions: none.
-/
import Derived.KernelRfl
import Derived.Test.YtiiaccpcoclklaaGreatCS5ox0067b2
set_option linter.unusedSimpArgs false
set_option linter.unusedVariables false
namespace Go.Proofs.YtiiaccpcoclklaaGreat
namespace Abs
open Go Go.Proofs
set_option maxRecDepth 100000
set_option maxHeartbeats 40000000
theorem s9x0 {p q : Prop} (f : p → q) (h : p := by exact li (.s (.u (.s (.u (.s (.u (.s (.s (.u8 (.u2 (.s (.s (.u16 (.u8 (.u4 (.u2 (.u .n)))))))))))))))))) : q := f h
theorem s9x1 {p q : Prop} (f : p → q) (h : p := by exact li (.s (.u (.s (.u (.s (.s (.u16 (.u16 (.u4 (.s (.u16 (.u16 (.u16 (.u8 (.u2 (.u .n))))))))))))))))) : q := f h
abbrev qan (qdc : Str → Int → Str → Int → Int → Int → Int → Int → Option Y7) : Prop := ∀ (p0 : Str) (p1 : Int) (p2 : Str) (p3 p4 : Int) (p5 p6 p7 : Int) (r : Y7), qdc p0 p1 p2 p3 p4 p5 p6 p7 = some r → aB Tryz.prog 273 [.ptr 0 0, .i p7] [.box [.str p0, .i p1, .str p2, .i p3, .i p4, .i p5, .i p6]] (bD r.1) [.box [.str p0, .i r.2.1, .str r.2.2.1, .i r.2.2.2.1, .i r.2.2.2.2.1, .i r.2.2.2.2.2.1, .i r.2.2.2.2.2.2]]
abbrev qaq (qdf : Str → Int → Str → Int → Int → Int → Int → Tm → Int → Option Y7) : Prop := ∀ (p0 : Str) (p1 : Int) (p2 : Str) (p3 p4 : Int) (p5 p6 : Int) (p7 : Tm) (p8 : Int) (r : Y7), qdf p0 p1 p2 p3 p4 p5 p6 p7 p8 = some r → aB Tryz.prog 160 [.ptr 0 0, bD p7, .i p8] [.box [.str p0, .i p1, .str p2, .i p3, .i p4, .i p5, .i p6]] (bD r.1) [.box [.str p0, .i r.2.1, .str r.2.2.1, .i r.2.2.2.1, .i r.2.2.2.2.1, .i r.2.2.2.2.2.1, .i r.2.2.2.2.2.2]]
abbrev qao (qdd : Str → Int → Str → Int → Int → Int → Int → Option Y7) : Prop := ∀ (p0 : Str) (p1 : Int) (p2 : Str) (p3 p4 : Int) (p5 p6 : Int) (r : Y7), qdd p0 p1 p2 p3 p4 p5 p6 = some r → aB Tryz.prog 272 [.ptr 0 0] [.box [.str p0, .i p1, .str p2, .i p3, .i p4, .i p5, .i p6]] (bD r.1) [.box [.str p0, .i r.2.1, .str r.2.2.1, .i r.2.2.2.1, .i r.2.2.2.2.1, .i r.2.2.2.2.2.1, .i r.2.2.2.2.2.2]]
abbrev qam (qdb : Str → Int → Str → Int → Int → Int → Int → Option Y7) : Prop := ∀ (p0 : Str) (p1 : Int) (p2 : Str) (p3 p4 : Int) (p5 p6 : Int) (r : Y7), qdb p0 p1 p2 p3 p4 p5 p6 = some r → aB Tryz.prog 239 [.ptr 0 0] [.box [.str p0, .i p1, .str p2, .i p3, .i p4, .i p5, .i p6]] (bD r.1) [.box [.str p0, .i r.2.1, .str r.2.2.1, .i r.2.2.2.1, .i r.2.2.2.2.1, .i r.2.2.2.2.2.1, .i r.2.2.2.2.2.2]]
abbrev qar (qdg : Str → Int → Str → Int → Int → Int → Int → Option Y7) : Prop := ∀ (p0 : Str) (p1 : Int) (p2 : Str) (p3 p4 : Int) (p5 p6 : Int) (r : Y7), qdg p0 p1 p2 p3 p4 p5 p6 = some r → aB Tryz.prog 159 [.ptr 0 0] [.box [.str p0, .i p1, .str p2, .i p3, .i p4, .i p5, .i p6]] (bD r.1) [.box [.str p0, .i r.2.1, .str r.2.2.1, .i r.2.2.2.1, .i r.2.2.2.2.1, .i r.2.2.2.2.2.1, .i r.2.2.2.2.2.2]]
abbrev qas (qdh : Str → Int → Str → Int → Int → Int → Int → Int → Option Y7) : Prop := ∀ (p0 : Str) (p1 : Int) (p2 : Str) (p3 p4 : Int) (p5 p6 p7 : Int) (r : Y7), qdh p0 p1 p2 p3 p4 p5 p6 p7 = some r → aB Tryz.prog 82 [.ptr 0 0, .i p7] [.box [.str p0, .i p1, .str p2, .i p3, .i p4, .i p5, .i p6]] (bD r.1) [.box [.str p0, .i r.2.1, .str r.2.2.1, .i r.2.2.2.1, .i r.2.2.2.2.1, .i r.2.2.2.2.2.1, .i r.2.2.2.2.2.2]]
abbrev qap (qde : Str → Int → Str → Int → Int → Int → Int → Str → Option Y7) : Prop := ∀ (p0 : Str) (p1 : Int) (p2 : Str) (p3 p4 : Int) (p5 p6 : Int) (p7 : Str) (r : Y7), qde p0 p1 p2 p3 p4 p5 p6 p7 = some r → aB Tryz.prog 240 [.ptr 0 0, .str p7] [.box [.str p0, .i p1, .str p2, .i p3, .i p4, .i p5, .i p6]] (bD r.1) [.box [.str p0, .i r.2.1, .str r.2.2.1, .i r.2.2.2.1, .i r.2.2.2.2.1, .i r.2.2.2.2.2.1, .i r.2.2.2.2.2.2]]
theorem LH (n : Nat) (qdc : Str → Int → Str → Int → Int → Int → Int → Int → Option Y7) (qdf : Str → Int → Str → Int → Int → Int → Int → Tm → Int → Option Y7) (qdd : Str → Int → Str → Int → Int → Int → Int → Option Y7) (qdb : Str → Int → Str → Int → Int → Int → Int → Option Y7) (qdg : Str → Int → Str → Int → Int → Int → Int → Option Y7) (qdh : Str → Int → Str → Int → Int → Int → Int → Int → Option Y7) (qde : Str → Int → Str → Int → Int → Int → Int → Str → Option Y7) (qbl : qan qdc) (qbo : qaq qdf) (qbm : qao qdd) (qbk : qam qdb) (qbp : qar qdg) (qbq : qas qdh) (qbn : qap qde) (p0 : Str) (p1 : Int) (p2 : Str) (p3 p4 : Int) (p5 p6 p7 : Int) (r : Y7) (h : qx n qdc qdf qdd qdb qdg qdh qde p0 p1 p2 p3 p4 p5 p6 p7 = some r) : aB Tryz.prog 273 [.ptr 0 0, .i p7] [.box [.str p0, .i p1, .str p2, .i p3, .i p4, .i p5, .i p6]] (bD r.1) [.box [.str p0, .i r.2.1, .str r.2.2.1, .i r.2.2.2.1, .i r.2.2.2.2.1, .i r.2.2.2.2.2.1, .i r.2.2.2.2.2.2]] := by
 unfold qx at h
 refine ah true Tryz.func273 rfl (nt Tryz.ntmps273 rfl) fun Q hQ t ht => ?_
 conv at ht => whnf
 subst ht
 refine .r1 fun K1 k1 => (k1 _ _ ?_)
 refine .r fun K2 k2 => ?_
 obtain ⟨x1, hx1, h⟩ := ob h
 refine cg [0] [] [.ptr 0 0] (cK _ _ _ _ _ _ _ _ _ hx1) (.aW []) [.box [.str p0, .i x1.1, .str x1.2.1, .i x1.2.2.1, .i x1.2.2.2.1, .i x1.2.2.2.2.1, .i x1.2.2.2.2.2]] (k2 _ _ ?_)
 refine .r1 fun K3 k3 => ?_
 obtain ⟨x2, hx2, h⟩ := ob h
 refine cg [0] [] [.ptr 0 0] (VE _ _ _ _ _ _ _ _ _ hx2) (.str x2.1) [.box [.str p0, .i x2.2.1, .str x2.2.2.1, .i x2.2.2.2.1, .i x2.2.2.2.2.1, .i x2.2.2.2.2.2.1, .i x2.2.2.2.2.2.2]] (k3 _ _ ?_)
 refine .r fun K4 k4 => ?_
 obtain ⟨x3, hx3, h⟩ := ob h
 refine cg [0] [] [.ptr 0 0, .str ([105, 110] : Str)] (ig _ _ _ _ _ _ _ _ _ _ hx3) (.aW []) [.box [.str p0, .i x3.1, .str x3.2.1, .i x3.2.2.1, .i x3.2.2.2.1, .i x3.2.2.2.2.1, .i x3.2.2.2.2.2]] (k4 _ _ ?_)
 refine .r1 fun K5 k5 => ?_
 obtain ⟨x4, hx4, h⟩ := ob h
 refine cg [0] [] [.ptr 0 0, .i 7] (qbq _ _ _ _ _ _ _ _ _ hx4) (bD x4.1) [.box [.str p0, .i x4.2.1, .str x4.2.2.1, .i x4.2.2.2.1, .i x4.2.2.2.2.1, .i x4.2.2.2.2.2.1, .i x4.2.2.2.2.2.2]] (k5 _ _ ?_)
 refine .r fun K6 k6 => ?_
 obtain ⟨x5, hx5, h⟩ := ob h
 refine cg [0] [] [.ptr 0 0, .str ([46] : Str)] (ig _ _ _ _ _ _ _ _ _ _ hx5) (.aW []) [.box [.str p0, .i x5.1, .str x5.2.1, .i x5.2.2.1, .i x5.2.2.2.1, .i x5.2.2.2.2.1, .i x5.2.2.2.2.2]] (k6 _ _ ?_)
 refine .r1 fun K7 k7 => ?_
 obtain ⟨x6, hx6, h⟩ := ob h
 refine cg [0] [] [.ptr 0 0, .i 1] (qbq _ _ _ _ _ _ _ _ _ hx6) (bD x6.1) [.box [.str p0, .i x6.2.1, .str x6.2.2.1, .i x6.2.2.2.1, .i x6.2.2.2.2.1, .i x6.2.2.2.2.2.1, .i x6.2.2.2.2.2.2]] (k7 _ _ ?_)
 refine .r1 fun K8 k8 => (⟨List.map aN ([x4.1, x6.1]), by simp only [List.map_cons, List.map_nil, aS]; rfl, ?_⟩)
 refine k8 _ _ (.r fun K9 k9 => ?_)
 refine k9 _ _ (.ret ?_)
 obtain rfl := sj h
 exact hQ _ _ _ (rI [0])
theorem Nn (n : Nat) (qdc : Str → Int → Str → Int → Int → Int → Int → Int → Option Y7) (qdf : Str → Int → Str → Int → Int → Int → Int → Tm → Int → Option Y7) (qdd : Str → Int → Str → Int → Int → Int → Int → Option Y7) (qdb : Str → Int → Str → Int → Int → Int → Int → Option Y7) (qdg : Str → Int → Str → Int → Int → Int → Int → Option Y7) (qdh : Str → Int → Str → Int → Int → Int → Int → Int → Option Y7) (qde : Str → Int → Str → Int → Int → Int → Int → Str → Option Y7) (qbl : qan qdc) (qbo : qaq qdf) (qbm : qao qdd) (qbk : qam qdb) (qbp : qar qdg) (qbq : qas qdh) (qbn : qap qde) (p0 : Str) (p1 : Int) (p2 : Str) (p3 p4 : Int) (p5 p6 : Int) (p7 : Tm) (p8 : Int) (r : Y7) (h : mP n qdc qdf qdd qdb qdg qdh qde p0 p1 p2 p3 p4 p5 p6 p7 p8 = some r) : aB Tryz.prog 160 [.ptr 0 0, bD p7, .i p8] [.box [.str p0, .i p1, .str p2, .i p3, .i p4, .i p5, .i p6]] (bD r.1) [.box [.str p0, .i r.2.1, .str r.2.2.1, .i r.2.2.2.1, .i r.2.2.2.2.1, .i r.2.2.2.2.2.1, .i r.2.2.2.2.2.2]] := by
 unfold mP at h
 refine ah true Tryz.func160 rfl (nt Tryz.ntmps160 rfl) fun Q hQ t ht => ?_
 conv at ht => whnf
 subst ht
 refine .q fun K1 k1 => rg 2 (k1 _ _ ?_)
 refine .q fun K2 k2 => (.block ?_)
 obtain ⟨o1, ho1, h⟩ := ob h
 have hR1 : ∀ s2 : Int × Str × Int × Int × Int × Int × Int × Str × Int × Int × Str × (List Ty) × (List Tm), o1 = .nx s2 → ∀ t9 h9, Le 1 t9 h9 (u4 (.ptr 1 0 :: (.unk :: (.ptr 2 0 :: (u32 (u8 (u4 []))))))) [.box [.str p0, .i s2.1, .str s2.2.1, .i s2.2.2.1, .i s2.2.2.2.1, .i s2.2.2.2.2.1, .i s2.2.2.2.2.2.1], .box [.i s2.2.2.2.2.2.2.1, .str s2.2.2.2.2.2.2.2.1, .i s2.2.2.2.2.2.2.2.2.1, .i s2.2.2.2.2.2.2.2.2.2.1, .str s2.2.2.2.2.2.2.2.2.2.2.1, aH s2.2.2.2.2.2.2.2.2.2.2.2.1, aZ s2.2.2.2.2.2.2.2.2.2.2.2.2], .box [.i 0, .str ([] : Str), .i 0, .i 0, .str ([] : Str), .slice (List.map aI ([] : List Ty)) .nils, .slice (List.map aN ([] : List Tm)) .nils]] → K2 t9 h9 := by
  intro s2 ho
  subst ho
  dsimp only [LR.el] at h
  intro t9 h9 hw
  refine k2 _ _ (AW.le hw ?_)
  refine .r fun K3 k3 => (k3 _ _ ?_)
  refine .ret ?_
  obtain rfl := sj h
  exact hQ _ _ _ (rI [0])
 refine .loopS (mK n qdc qdf qdd qdb qdg qdh qde p0 p8) (fun (s1 : Int × Str × Int × Int × Int × Int × Int × Str × Int × Int × Str × (List Ty) × (List Tm)) => (.ptr 0 0 :: (.unk :: (.i p8 :: (.unk :: (.ptr 1 0 :: (.unk :: (.ptr 2 0 :: (u32 (u8 (u4 []))))))))))) (fun (s1 : Int × Str × Int × Int × Int × Int × Int × Str × Int × Int × Str × (List Ty) × (List Tm)) => [.box [.str p0, .i s1.1, .str s1.2.1, .i s1.2.2.1, .i s1.2.2.2.1, .i s1.2.2.2.2.1, .i s1.2.2.2.2.2.1], .box [.i s1.2.2.2.2.2.2.1, .str s1.2.2.2.2.2.2.2.1, .i s1.2.2.2.2.2.2.2.2.1, .i s1.2.2.2.2.2.2.2.2.2.1, .str s1.2.2.2.2.2.2.2.2.2.2.1, aH s1.2.2.2.2.2.2.2.2.2.2.2.1, aZ s1.2.2.2.2.2.2.2.2.2.2.2.2], .box [.i 0, .str ([] : Str), .i 0, .i 0, .str ([] : Str), .slice (List.map aI ([] : List Ty)) .nils, .slice (List.map aN ([] : List Tm)) .nils]]) ho1 (fun _ => rfl) (li (.s (.u (.s (.u (.s (.u (.s (.u16 (.u16 (.u8 (.u4 .n)))))))))))) ?_
 intro n1 s1 hs1 KL1 hKL1
 unfold mK at hs1
 refine .q fun K4 k4 => .r fun K5 k5 => (cg [0] [] [.ptr 0 0] (iJ 0 p0 s1.1 s1.2.1 s1.2.2.1 s1.2.2.2.1 s1.2.2.2.2.1 s1.2.2.2.2.2.1 _ rfl) (.bool (s1.2.2.2.2.2.1 == 0)) [.box [.str p0, .i s1.1, .str s1.2.1, .i s1.2.2.1, .i s1.2.2.2.1, .i s1.2.2.2.2.1, .i s1.2.2.2.2.2.1]] ?_)
 refine k5 _ _ (.ak rfl hs1 (fun hc1 hs1 => ?_) (fun hc1 hs1 => ?_))
 ·refine .skip (k4 _ _ ?_)
  refine .block (.r fun K6 k6 => ?_)
  obtain ⟨x1, hx1, hs1⟩ := ob hs1
  refine cg [0] [] [.ptr 0 0, .i p8] (OT _ _ _ _ _ _ _ _ _ _ hx1) (.i x1) [.box [.str p0, .i s1.1, .str s1.2.1, .i s1.2.2.1, .i s1.2.2.2.1, .i s1.2.2.2.2.1, .i s1.2.2.2.2.2.1]] (k6 _ _ ?_)
  refine .q fun K7 k7 => .r fun K8 k8 => (k8 _ _ ?_)
  refine .ak rfl hs1 (fun hc2 hs1 => ?_) (fun hc2 hs1 => ?_)
  ·refine .exit ?_
   exact hR1 _ (sj hs1).symm _ _ (li (.u4 (.s (.u (.s (.u16 (.u16 (.u8 (.u4 .n)))))))))
  refine .skip (k7 _ _ ?_)
  refine .r fun K9 k9 => ?_
  obtain ⟨x2, hx2, hs1⟩ := ob hs1
  refine cg [0] [] [.ptr 0 0] (cK _ _ _ _ _ _ _ _ _ hx2) (.aW []) [.box [.str p0, .i x2.1, .str x2.2.1, .i x2.2.2.1, .i x2.2.2.2.1, .i x2.2.2.2.2.1, .i x2.2.2.2.2.2]] (k9 _ _ ?_)
  refine .q fun K10 k10 => .r fun K11 k11 => (k11 _ _ ?_)
  refine .block (.q fun K12 k12 => ?_)
  obtain ⟨s3, hj1, hs1⟩ := ob hs1
  have hR2 : ∀ t9 h9, Le 1 t9 h9 (.ptr 0 0 :: (.unk :: (.i p8 :: (.unk :: (.ptr 1 0 :: (.unk :: (.ptr 2 0 :: (.i x1 :: (u8 (u2 (.i p8 :: (.bool s3 :: (u16 (u8 (u4 (u2 (.unk :: []))))))))))))))))) [.box [.str p0, .i x2.1, .str x2.2.1, .i x2.2.2.1, .i x2.2.2.2.1, .i x2.2.2.2.2.1, .i x2.2.2.2.2.2], .box [.i s1.2.2.2.2.2.2.1, .str s1.2.2.2.2.2.2.2.1, .i s1.2.2.2.2.2.2.2.2.1, .i s1.2.2.2.2.2.2.2.2.2.1, .str s1.2.2.2.2.2.2.2.2.2.2.1, aH s1.2.2.2.2.2.2.2.2.2.2.2.1, aZ s1.2.2.2.2.2.2.2.2.2.2.2.2], .box [.i 0, .str ([] : Str), .i 0, .i 0, .str ([] : Str), .slice (List.map aI ([] : List Ty)) .nils, .slice (List.map aN ([] : List Tm)) .nils]] → K12 t9 h9 := by
   intro t9 h9 hw
   refine k12 _ _ (AW.le hw ?_)
   clear hw
   refine .ak rfl hs1 (fun hc3 hs1 => ?_) (fun hc3 hs1 => ?_)
   ·refine .r1 fun K13 k13 => (⟨(IntKind.wrap .i64 (p8 + 1)), rfl, ?_⟩)
    obtain ⟨x3, hx3, hs1⟩ := ob hs1
    refine cg [0] [] [.ptr 0 0, .i (IntKind.wrap .i64 (p8 + 1))] (qbq _ _ _ _ _ _ _ _ _ hx3) (bD x3.1) [.box [.str p0, .i x3.2.1, .str x3.2.2.1, .i x3.2.2.2.1, .i x3.2.2.2.2.1, .i x3.2.2.2.2.2.1, .i x3.2.2.2.2.2.2]] (⟨List.map aN ([(Tm.mk s1.2.2.2.2.2.2.1 s1.2.2.2.2.2.2.2.1 s1.2.2.2.2.2.2.2.2.1 (Ty.mk s1.2.2.2.2.2.2.2.2.2.1 s1.2.2.2.2.2.2.2.2.2.2.1 s1.2.2.2.2.2.2.2.2.2.2.2.1) s1.2.2.2.2.2.2.2.2.2.2.2.2), x3.1]), by simp only [List.map_cons, List.map_nil, aS]; rfl, ?_⟩)
    refine ⟨rfl, ?_⟩
    refine k13 _ _ (.ret ?_)
    obtain rfl := sj hs1
    dsimp only [LR.el] at h
    obtain rfl := sj h
    exact hQ _ _ _ (rI [0])
   refine .r fun K14 k14 => (k14 _ _ ?_)
   refine .ak rfl hs1 (fun hc4 hs1 => ?_) (fun hc4 hs1 => ?_)
   ·refine .r1 fun K15 k15 => ?_
    obtain ⟨x4, hx4, hs1⟩ := ob hs1
    refine cg [0] [] [.ptr 0 0, .i p8] (qbq _ _ _ _ _ _ _ _ _ hx4) (bD x4.1) [.box [.str p0, .i x4.2.1, .str x4.2.2.1, .i x4.2.2.2.1, .i x4.2.2.2.2.1, .i x4.2.2.2.2.2.1, .i x4.2.2.2.2.2.2]] (⟨List.map aN ([(Tm.mk s1.2.2.2.2.2.2.1 s1.2.2.2.2.2.2.2.1 s1.2.2.2.2.2.2.2.2.1 (Ty.mk s1.2.2.2.2.2.2.2.2.2.1 s1.2.2.2.2.2.2.2.2.2.2.1 s1.2.2.2.2.2.2.2.2.2.2.2.1) s1.2.2.2.2.2.2.2.2.2.2.2.2), x4.1]), by simp only [List.map_cons, List.map_nil, aS]; rfl, ?_⟩)
    refine ⟨rfl, ?_⟩
    refine k15 _ _ (.ret ?_)
    obtain rfl := sj hs1
    dsimp only [LR.el] at h
    obtain rfl := sj h
    exact hQ _ _ _ (rI [0])
   refine .skip (k10 _ _ ?_)
   refine .r1 fun K16 k16 => (⟨(IntKind.wrap .i64 (p8 + 1)), rfl, ?_⟩)
   obtain ⟨x5, hx5, hs1⟩ := ob hs1
   refine cg [0] [] [.ptr 0 0, .i (IntKind.wrap .i64 (p8 + 1))] (qbq _ _ _ _ _ _ _ _ _ hx5) (bD x5.1) [.box [.str p0, .i x5.2.1, .str x5.2.2.1, .i x5.2.2.2.1, .i x5.2.2.2.2.1, .i x5.2.2.2.2.2.1, .i x5.2.2.2.2.2.2]] (k16 _ _ ?_)
   refine rg 1 (⟨List.map aN ([(Tm.mk s1.2.2.2.2.2.2.1 s1.2.2.2.2.2.2.2.1 s1.2.2.2.2.2.2.2.2.1 (Ty.mk s1.2.2.2.2.2.2.2.2.2.1 s1.2.2.2.2.2.2.2.2.2.2.1 s1.2.2.2.2.2.2.2.2.2.2.2.1) s1.2.2.2.2.2.2.2.2.2.2.2.2), x5.1]), by simp only [List.map_cons, List.map_nil, aS]; rfl, ?_⟩)
   exact hKL1 _ _ _ hs1 (wk [some 0, some 1, some 2] (.c rfl (.u (.c rfl (.u (.c rfl (.u (.c rfl (.u32 (.u8 (.u4 .nil)))))))))) (.b rfl (.c7 .nil) (.b rfl (.c4 (.c rfl (.cons (.share rfl) (.e aK .nil)))) (.b rfl (.c7 .nil) .nil))) rfl)
  refine .r fun K17 k17 => (k17 _ _ ?_)
  refine .ak rfl hj1 (fun hc5 hj1 => ?_) (fun hc5 hj1 => ?_)
  ·refine .skip ?_
   cases hj1
   exact s9x0 (hR2 _ _)
  refine .r fun K18 k18 => (k18 _ _ ?_)
  refine .ak rfl hj1 (fun hc6 hj1 => ?_) (fun hc6 hj1 => ?_)
  ·refine .skip ?_
   cases hj1
   exact s9x0 (hR2 _ _)
  refine .r fun K19 k19 => (k19 _ _ ?_)
  refine .ak rfl hj1 (fun hc7 hj1 => ?_) (fun hc7 hj1 => ?_)
  ·refine .skip ?_
   cases hj1
   exact s9x0 (hR2 _ _)
  refine rg 0 ?_
  cases hj1
  exact s9x0 (hR2 _ _)
 refine .exit ?_
 exact hR1 _ (sj hs1).symm _ _ (li (.u4 (.s (.u (.s (.u16 (.u16 (.u8 (.u4 .n)))))))))
theorem Kz (n : Nat) (qdc : Str → Int → Str → Int → Int → Int → Int → Int → Option Y7) (qdf : Str → Int → Str → Int → Int → Int → Int → Tm → Int → Option Y7) (qdd : Str → Int → Str → Int → Int → Int → Int → Option Y7) (qdb : Str → Int → Str → Int → Int → Int → Int → Option Y7) (qdg : Str → Int → Str → Int → Int → Int → Int → Option Y7) (qdh : Str → Int → Str → Int → Int → Int → Int → Int → Option Y7) (qde : Str → Int → Str → Int → Int → Int → Int → Str → Option Y7) (qbl : qan qdc) (qbo : qaq qdf) (qbm : qao qdd) (qbk : qam qdb) (qbp : qar qdg) (qbq : qas qdh) (qbn : qap qde) (p0 : Str) (p1 : Int) (p2 : Str) (p3 p4 : Int) (p5 p6 : Int) (r : Y7) (h : iG n qdc qdf qdd qdb qdg qdh qde p0 p1 p2 p3 p4 p5 p6 = some r) : aB Tryz.prog 272 [.ptr 0 0] [.box [.str p0, .i p1, .str p2, .i p3, .i p4, .i p5, .i p6]] (bD r.1) [.box [.str p0, .i r.2.1, .str r.2.2.1, .i r.2.2.2.1, .i r.2.2.2.2.1, .i r.2.2.2.2.2.1, .i r.2.2.2.2.2.2]] := by
 unfold iG at h
 refine ah true Tryz.func272 rfl (nt Tryz.ntmps272 rfl) fun Q hQ t ht => ?_
 conv at ht => whnf
 subst ht
 refine .r1 fun K1 k1 => (k1 _ _ ?_)
 refine .q fun K2 k2 => .r fun K3 k3 => ?_
 obtain ⟨x1, hx1, h⟩ := ob h
 refine cg [0] [] [.ptr 0 0, .str ([125] : Str)] (eO _ _ _ _ _ _ _ _ _ _ hx1) (.bool x1) [.box [.str p0, .i p1, .str p2, .i p3, .i p4, .i p5, .i p6]] (k3 _ _ ?_)
 refine .ak rfl h (fun hc1 h => ?_) (fun hc1 h => ?_)
 ·refine .r fun K4 k4 => ?_
  obtain ⟨x2, hx2, h⟩ := ob h
  refine cg [0] [] [.ptr 0 0] (cK _ _ _ _ _ _ _ _ _ hx2) (.aW []) [.box [.str p0, .i x2.1, .str x2.2.1, .i x2.2.2.1, .i x2.2.2.2.1, .i x2.2.2.2.2.1, .i x2.2.2.2.2.2]] (k4 _ _ ?_)
  refine .r fun K5 k5 => ?_
  obtain ⟨x3, hx3, h⟩ := ob h
  refine cg [0] [] [.ptr 0 0, .str ([91] : Str)] (ig _ _ _ _ _ _ _ _ _ _ hx3) (.aW []) [.box [.str p0, .i x3.1, .str x3.2.1, .i x3.2.2.1, .i x3.2.2.2.1, .i x3.2.2.2.2.1, .i x3.2.2.2.2.2]] (k5 _ _ ?_)
  refine .r1 fun K6 k6 => ?_
  obtain ⟨x4, hx4, h⟩ := ob h
  refine cg [0] [] [.ptr 0 0] (Zg _ _ _ _ _ _ _ _ _ hx4) (bn x4.1) [.box [.str p0, .i x4.2.1, .str x4.2.2.1, .i x4.2.2.2.1, .i x4.2.2.2.2.1, .i x4.2.2.2.2.2.1, .i x4.2.2.2.2.2.2]] (k6 _ _ ?_)
  refine .r fun K7 k7 => ?_
  obtain ⟨x5, hx5, h⟩ := ob h
  refine cg [0] [] [.ptr 0 0, .str ([93] : Str)] (ig _ _ _ _ _ _ _ _ _ _ hx5) (.aW []) [.box [.str p0, .i x5.1, .str x5.2.1, .i x5.2.2.1, .i x5.2.2.2.1, .i x5.2.2.2.2.1, .i x5.2.2.2.2.2]] (k7 _ _ ?_)
  refine .r fun K8 k8 => (k8 _ _ ?_)
  refine .ret ?_
  obtain rfl := sj h
  exact hQ _ _ _ (rI [0])
 refine .skip (k2 _ _ ?_)
 refine .r1 fun K9 k9 => (k9 _ _ ?_)
 refine .r1 fun K10 k10 => (k10 _ _ ?_)
 refine .q fun K11 k11 => ?_
 obtain ⟨o3, hj1, h⟩ := ob h
 have hR1 : ∀ s1 : Int × Str × Int × Int × Int × Int × Int × Str × Int × Int × Str × (List Ty) × (List Tm), o3 = .nx s1 → ∀ t9 h9, Le 1 t9 h9 (.ptr 0 0 :: (.unk :: (.ptr 1 0 :: (.unk :: (.ptr 2 0 :: (u64 (u32 (.unk :: [])))))))) [.box [.str p0, .i s1.1, .str s1.2.1, .i s1.2.2.1, .i s1.2.2.2.1, .i s1.2.2.2.2.1, .i s1.2.2.2.2.2.1], .box [.i 0, .str ([] : Str), .i 0, .i 0, .str ([] : Str), .slice (List.map aI ([] : List Ty)) .nils, .slice (List.map aN ([] : List Tm)) .nils], .box [.i s1.2.2.2.2.2.2.1, .str s1.2.2.2.2.2.2.2.1, .i s1.2.2.2.2.2.2.2.2.1, .i s1.2.2.2.2.2.2.2.2.2.1, .str s1.2.2.2.2.2.2.2.2.2.2.1, aH s1.2.2.2.2.2.2.2.2.2.2.2.1, aZ s1.2.2.2.2.2.2.2.2.2.2.2.2]] → K11 t9 h9 := by
  intro s1 ho
  subst ho
  dsimp only [LR.el] at h
  intro t9 h9 hw
  refine k11 _ _ (AW.le hw ?_)
  clear hw
  refine .q fun K12 k12 => rg 2 (⟨List.map aN ([(Tm.mk s1.2.2.2.2.2.2.1 s1.2.2.2.2.2.2.2.1 s1.2.2.2.2.2.2.2.2.1 (Ty.mk s1.2.2.2.2.2.2.2.2.2.1 s1.2.2.2.2.2.2.2.2.2.2.1 s1.2.2.2.2.2.2.2.2.2.2.2.1) s1.2.2.2.2.2.2.2.2.2.2.2.2)]), by simp only [List.map_cons, List.map_nil, aS]; rfl, ?_⟩)
  refine k12 _ _ (.q fun K13 k13 => ?_)
  refine .block ?_
  obtain ⟨o1, ho1, h⟩ := ob h
  have hR2 : ∀ s3 : Int × Str × Int × Int × Int × Int × (List Tm), o1 = .nx s3 → ∀ t9 h9, Le 1 t9 h9 (.ptr 0 0 :: (.unk :: (.ptr 1 0 :: (u4 (u2 (.ptr 2 0 :: (u64 (u16 (u8 (u4 [])))))))))) [.box [.str p0, .i s3.1, .str s3.2.1, .i s3.2.2.1, .i s3.2.2.2.1, .i s3.2.2.2.2.1, .i s3.2.2.2.2.2.1], .box [.i 0, .str ([] : Str), .i 0, .i 0, .str ([] : Str), .slice (List.map aI ([] : List Ty)) .nils, .slice (List.map aN ([] : List Tm)) .nils], .box [.i 28, .str ([] : Str), .i 0, .i 0, .str ([] : Str), .slice (List.map aI ([] : List Ty)) .nils, .slice (List.map aN s3.2.2.2.2.2.2) (.tip 3 7)], .tip (List.length s3.2.2.2.2.2.2 * 7)] → K13 t9 h9 := by
   intro s3 ho
   subst ho
   dsimp only [LR.el] at h
   intro t9 h9 hw
   refine k13 _ _ (AW.le hw ?_)
   refine .r fun K14 k14 => ?_
   obtain ⟨x6, hx6, h⟩ := ob h
   refine cg [0] [] [.ptr 0 0, .str ([125] : Str)] (ig _ _ _ _ _ _ _ _ _ _ hx6) (.aW []) [.box [.str p0, .i x6.1, .str x6.2.1, .i x6.2.2.1, .i x6.2.2.2.1, .i x6.2.2.2.2.1, .i x6.2.2.2.2.2]] (k14 _ _ ?_)
   refine .r fun K15 k15 => (k15 _ _ ?_)
   refine .ret ?_
   obtain rfl := sj h
   exact hQ _ _ _ (rI [0])
  refine .loopS (oU n qdc qdf qdd qdb qdg qdh qde p0) (fun (s2 : Int × Str × Int × Int × Int × Int × (List Tm)) => (.ptr 0 0 :: (.unk :: (.ptr 1 0 :: (u4 (u2 (.ptr 2 0 :: (u64 (u16 (u8 (u4 []))))))))))) (fun (s2 : Int × Str × Int × Int × Int × Int × (List Tm)) => [.box [.str p0, .i s2.1, .str s2.2.1, .i s2.2.2.1, .i s2.2.2.2.1, .i s2.2.2.2.2.1, .i s2.2.2.2.2.2.1], .box [.i 0, .str ([] : Str), .i 0, .i 0, .str ([] : Str), .slice (List.map aI ([] : List Ty)) .nils, .slice (List.map aN ([] : List Tm)) .nils], .box [.i 28, .str ([] : Str), .i 0, .i 0, .str ([] : Str), .slice (List.map aI ([] : List Ty)) .nils, .slice (List.map aN s2.2.2.2.2.2.2) (.tip 3 7)], .tip (List.length s2.2.2.2.2.2.2 * 7)]) ho1 (fun _ => rfl) (wk [some 0, some 1, some 4, some 3] (.c rfl (.u (.c rfl (.u4 (.u2 (.c rfl (.u64 (.u16 (.u8 (.u4 .nil)))))))))) (.b rfl (.c7 .nil) (.b rfl (.c7 .nil) (.b rfl (.c4 (.c2 (.cons (.bG (aK _ _) rfl) .nil))) (.t rfl .nil)))) rfl) ?_
  intro n1 s2 hs1 KL1 hKL1
  unfold oU at hs1
  refine .q fun K16 k16 => .q fun K17 k17 => ?_
  obtain ⟨s4, hj2, hs1⟩ := ob hs1
  have hR3 : ∀ t9 h9, Le 1 t9 h9 (.ptr 0 0 :: (.unk :: (.ptr 1 0 :: (u4 (u2 (.ptr 2 0 :: (u64 (u8 (u4 (u2 (.unk :: (.bool s4 :: (u8 (u4 [])))))))))))))) [.box [.str p0, .i s2.1, .str s2.2.1, .i s2.2.2.1, .i s2.2.2.2.1, .i s2.2.2.2.2.1, .i s2.2.2.2.2.2.1], .box [.i 0, .str ([] : Str), .i 0, .i 0, .str ([] : Str), .slice (List.map aI ([] : List Ty)) .nils, .slice (List.map aN ([] : List Tm)) .nils], .box [.i 28, .str ([] : Str), .i 0, .i 0, .str ([] : Str), .slice (List.map aI ([] : List Ty)) .nils, .slice (List.map aN s2.2.2.2.2.2.2) (.tip 3 7)], .tip (List.length s2.2.2.2.2.2.2 * 7)] → K17 t9 h9 := by
   intro t9 h9 hw
   refine k17 _ _ (AW.le hw ?_)
   clear hw
   refine .ak rfl hs1 (fun hc2 hs1 => ?_) (fun hc2 hs1 => ?_)
   ·refine .skip (k16 _ _ ?_)
    refine .block (.r fun K18 k18 => ?_)
    obtain ⟨x7, hx7, hs1⟩ := ob hs1
    refine cg [0] [] [.ptr 0 0] (cK _ _ _ _ _ _ _ _ _ hx7) (.aW []) [.box [.str p0, .i x7.1, .str x7.2.1, .i x7.2.2.1, .i x7.2.2.2.1, .i x7.2.2.2.2.1, .i x7.2.2.2.2.2]] (k18 _ _ ?_)
    refine rg 2 ?_
    obtain ⟨x8, hx8, hs1⟩ := ob hs1
    refine cg [0] [] [.ptr 0 0, .i 1] (qbq _ _ _ _ _ _ _ _ _ hx8) (bD x8.1) [.box [.str p0, .i x8.2.1, .str x8.2.2.1, .i x8.2.2.2.1, .i x8.2.2.2.2.1, .i x8.2.2.2.2.2.1, .i x8.2.2.2.2.2.2]] (⟨List.map aN ([x8.1]), by simp only [List.map_cons, List.map_nil, aS]; rfl, ?_⟩)
    obtain ⟨x9, hx9, hs1⟩ := ob hs1
    refine eG (l := s2.2.2.2.2.2.2) (ys := [x8.1]) (f := aN) hx9 Qs rfl rfl rfl (⟨rfl, ?_⟩)
    exact hKL1 _ _ _ hs1 (wk [some 0, some 1, some 2, some 5] (.c rfl (.u (.c rfl (.u4 (.u2 (.c rfl (.u64 (.u16 (.u8 (.u4 .nil)))))))))) (.b rfl (.c7 .nil) (.b rfl (.c7 .nil) (.b rfl (.c4 (.c2 (.cons (.bG (aK _ _) rfl) .nil))) (.t rfl .nil)))) rfl)
   refine .exit ?_
   exact hR2 _ (sj hs1).symm _ _ (li (.s (.u (.s (.u4 (.u2 (.s (.u16 (.u16 (.u16 (.u16 (.u16 (.u8 (.u4 .n))))))))))))))
  refine rg 0 (cg [0] [] [.ptr 0 0] (iJ 0 p0 s2.1 s2.2.1 s2.2.2.1 s2.2.2.2.1 s2.2.2.2.2.1 s2.2.2.2.2.2.1 _ rfl) (.bool (s2.2.2.2.2.2.1 == 0)) [.box [.str p0, .i s2.1, .str s2.2.1, .i s2.2.2.1, .i s2.2.2.2.1, .i s2.2.2.2.2.1, .i s2.2.2.2.2.2.1]] ?_)
  refine aD hj2 (fun hc3 hj2 => ?_) (fun hc3 hj2 => ?_)
  ·obtain ⟨x10, hx10, hj2⟩ := ob hj2
   refine cg [0] [] [.ptr 0 0, .str ([44] : Str)] (eO _ _ _ _ _ _ _ _ _ _ hx10) (.bool x10) [.box [.str p0, .i s2.1, .str s2.2.1, .i s2.2.2.1, .i s2.2.2.2.1, .i s2.2.2.2.2.1, .i s2.2.2.2.2.2.1]] ?_
   cases hj2
   exact hR3 _ _ (li (.s (.u (.s (.u4 (.u2 (.s (.u16 (.u16 (.u16 (.u16 (.u8 (.u4 (.u2 (.u (.s (.u8 (.u4 .n))))))))))))))))))
  cases hj2
  exact hR3 _ _ (li (.s (.u (.s (.u4 (.u2 (.s (.u16 (.u16 (.u16 (.u16 (.u8 (.u4 (.u2 (.u (.s (.u8 (.u4 .n))))))))))))))))))
 refine .q fun K19 k19 => ?_
 obtain ⟨s5, hj3, hj1⟩ := ob hj1
 have hR4 : ∀ t9 h9, Le 1 t9 h9 (.ptr 0 0 :: (.unk :: (.ptr 1 0 :: (.unk :: (.ptr 2 0 :: (.ptr 3 0 :: (u32 (u4 (.bool s5 :: (u32 (u16 (u8 (u2 (.unk :: [])))))))))))))) [.box [.str p0, .i p1, .str p2, .i p3, .i p4, .i p5, .i p6], .box [.i 0, .str ([] : Str), .i 0, .i 0, .str ([] : Str), .slice (List.map aI ([] : List Ty)) .nils, .slice (List.map aN ([] : List Tm)) .nils], .box [.i 0, .str ([] : Str), .i 0, .i 0, .str ([] : Str), .slice (List.map aI ([] : List Ty)) .nils, .slice (List.map aN ([] : List Tm)) .nils], .box [.i p1, .str p2, .i p3]] → K19 t9 h9 := by
  intro t9 h9 hw
  refine k19 _ _ (AW.le hw ?_)
  clear hw
  refine .ak rfl hj1 (fun hc4 hj1 => ?_) (fun hc4 hj1 => ?_)
  ·refine .r fun K20 k20 => ?_
   obtain ⟨x11, hx11, hj1⟩ := ob hj1
   refine cg [0] [] [.ptr 0 0] (cK _ _ _ _ _ _ _ _ _ hx11) (.aW []) [.box [.str p0, .i x11.1, .str x11.2.1, .i x11.2.2.1, .i x11.2.2.2.1, .i x11.2.2.2.2.1, .i x11.2.2.2.2.2]] (k20 _ _ ?_)
   refine .r fun K21 k21 => ?_
   obtain ⟨x12, hx12, hj1⟩ := ob hj1
   refine cg [0] [] [.ptr 0 0] (cK _ _ _ _ _ _ _ _ _ hx12) (.aW []) [.box [.str p0, .i x12.1, .str x12.2.1, .i x12.2.2.1, .i x12.2.2.2.1, .i x12.2.2.2.2.1, .i x12.2.2.2.2.2]] (k21 _ _ ?_)
   refine .r1 fun K22 k22 => ?_
   obtain ⟨x13, hx13, hj1⟩ := ob hj1
   refine cg [0] [] [.ptr 0 0, .i 7] (qbq _ _ _ _ _ _ _ _ _ hx13) (bD x13.1) [.box [.str p0, .i x13.2.1, .str x13.2.2.1, .i x13.2.2.2.1, .i x13.2.2.2.2.1, .i x13.2.2.2.2.2.1, .i x13.2.2.2.2.2.2]] (k22 _ _ ?_)
   refine .q fun K23 k23 => .q fun K24 k24 => ?_
   obtain ⟨s6, hj4, hj1⟩ := ob hj1
   have hR5 : ∀ t9 h9, Le 1 t9 h9 (.ptr 0 0 :: (.unk :: (.ptr 1 0 :: (.unk :: (.ptr 2 0 :: (.ptr 3 0 :: (.ptr 4 0 :: (u32 (u8 (u4 (u2 (.unk :: (.bool s6 :: (u32 (u8 (u4 (u2 (.unk :: [])))))))))))))))))) [.box [.str p0, .i x13.2.1, .str x13.2.2.1, .i x13.2.2.2.1, .i x13.2.2.2.2.1, .i x13.2.2.2.2.2.1, .i x13.2.2.2.2.2.2], .box [.i 0, .str ([] : Str), .i 0, .i 0, .str ([] : Str), .slice (List.map aI ([] : List Ty)) .nils, .slice (List.map aN ([] : List Tm)) .nils], .box [.i 0, .str ([] : Str), .i 0, .i 0, .str ([] : Str), .slice (List.map aI ([] : List Ty)) .nils, .slice (List.map aN ([] : List Tm)) .nils], .box [.i p1, .str p2, .i p3], .box [.i x13.1.op, .str x13.1.name, .i x13.1.n, .i x13.1.ty.kind, .str x13.1.ty.name, aH x13.1.ty.kids, aZ x13.1.kids]] → K24 t9 h9 := by
    intro t9 h9 hw
    refine k24 _ _ (AW.le hw ?_)
    clear hw
    refine .ak rfl hj1 (fun hc5 hj1 => ?_) (fun hc5 hj1 => ?_)
    ·refine .r fun K25 k25 => ?_
     obtain ⟨x14, hx14, hj1⟩ := ob hj1
     refine cg [0] [] [.ptr 0 0] (cK _ _ _ _ _ _ _ _ _ hx14) (.aW []) [.box [.str p0, .i x14.1, .str x14.2.1, .i x14.2.2.1, .i x14.2.2.2.1, .i x14.2.2.2.2.1, .i x14.2.2.2.2.2]] (k25 _ _ ?_)
     refine .r1 fun K26 k26 => ?_
     obtain ⟨x15, hx15, hj1⟩ := ob hj1
     refine cg [0] [] [.ptr 0 0, .str ([125] : Str)] (qbn _ _ _ _ _ _ _ _ _ hx15) (bD x15.1) [.box [.str p0, .i x15.2.1, .str x15.2.2.1, .i x15.2.2.2.1, .i x15.2.2.2.2.1, .i x15.2.2.2.2.2.1, .i x15.2.2.2.2.2.2]] (k26 _ _ ?_)
     refine .r1 fun K27 k27 => (⟨List.map aN ([x13.1, x15.1]), by simp only [List.map_cons, List.map_nil, aS]; rfl, ?_⟩)
     refine k27 _ _ (.ret ?_)
     obtain rfl := sj hj1
     dsimp only [LR.el] at h
     obtain rfl := sj h
     exact hQ _ _ _ (rI [0])
    refine .skip (k23 _ _ ?_)
    refine .r1 fun K28 k28 => (⟨List.map aN ([(Tm.mk 20 p2 0 (Ty.mk 0 ([] : Str) ([])) ([])), x13.1]), by simp only [List.map_cons, List.map_nil, aS]; rfl, ?_⟩)
    refine k28 _ _ (.r fun K29 k29 => ?_)
    refine k29 _ _ (.block ?_)
    obtain ⟨o2, ho2, hj1⟩ := ob hj1
    have hR6 : ∀ s8 : Int × Str × Int × Int × Int × Int × Int × Str × Int × Int × Str × (List Ty) × (List Tm), o2 = .nx s8 → ∀ t9 h9, Le 1 t9 h9 (.ptr 0 0 :: (.unk :: (.ptr 1 0 :: (.unk :: (.ptr 2 0 :: (u64 (u32 (.unk :: [])))))))) [.box [.str p0, .i s8.1, .str s8.2.1, .i s8.2.2.1, .i s8.2.2.2.1, .i s8.2.2.2.2.1, .i s8.2.2.2.2.2.1], .box [.i 0, .str ([] : Str), .i 0, .i 0, .str ([] : Str), .slice (List.map aI ([] : List Ty)) .nils, .slice (List.map aN ([] : List Tm)) .nils], .box [.i s8.2.2.2.2.2.2.1, .str s8.2.2.2.2.2.2.2.1, .i s8.2.2.2.2.2.2.2.2.1, .i s8.2.2.2.2.2.2.2.2.2.1, .str s8.2.2.2.2.2.2.2.2.2.2.1, aH s8.2.2.2.2.2.2.2.2.2.2.2.1, aZ s8.2.2.2.2.2.2.2.2.2.2.2.2]] → K11 t9 h9 := by
     intro s8 ho
     subst ho
     dsimp only [LR.el] at hj1
     intro t9 h9 hw
     exact hR1 _ (sj hj1).symm _ _ (hw.trans (li (.s (.u (.s (.u (.s (.u16 (.u16 (.u16 (.u16 (.u16 (.u16 (.u .n))))))))))))))
    refine .loopS (sV n qdc qdf qdd qdb qdg qdh qde p0) (fun (s7 : Int × Int × Str × Int × Int × Int × Int × Int × Str × Int × Int × Str × (List Ty) × (List Tm)) => (.ptr 0 0 :: (.unk :: (.ptr 1 0 :: (.unk :: (.ptr 2 0 :: (u2 (.unk :: (.i s7.1 :: (u64 (u16 (u8 (u4 (.unk :: [])))))))))))))) (fun (s7 : Int × Int × Str × Int × Int × Int × Int × Int × Str × Int × Int × Str × (List Ty) × (List Tm)) => [.box [.str p0, .i s7.2.1, .str s7.2.2.1, .i s7.2.2.2.1, .i s7.2.2.2.2.1, .i s7.2.2.2.2.2.1, .i s7.2.2.2.2.2.2.1], .box [.i 0, .str ([] : Str), .i 0, .i 0, .str ([] : Str), .slice (List.map aI ([] : List Ty)) .nils, .slice (List.map aN ([] : List Tm)) .nils], .box [.i s7.2.2.2.2.2.2.2.1, .str s7.2.2.2.2.2.2.2.2.1, .i s7.2.2.2.2.2.2.2.2.2.1, .i s7.2.2.2.2.2.2.2.2.2.2.1, .str s7.2.2.2.2.2.2.2.2.2.2.2.1, aH s7.2.2.2.2.2.2.2.2.2.2.2.2.1, aZ s7.2.2.2.2.2.2.2.2.2.2.2.2.2]]) ho2 (fun _ => rfl) (wk [some 0, some 1, some 2] (.c rfl (.u (.c rfl (.u (.c rfl (.u2 (.u (.c rfl (.u64 (.u16 (.u8 (.u4 (.u .nil))))))))))))) (.b rfl (.c7 .nil) (.b rfl (.c7 .nil) (.b rfl (.c4 (.c rfl (.cons (.share rfl) (.e aK .nil)))) .nil))) rfl) ?_
    intro n2 s7 hs2 KL2 hKL2
    unfold sV at hs2
    refine .q fun K30 k30 => .r fun K31 k31 => (k31 _ _ ?_)
    refine .ak rfl hs2 (fun hc6 hs2 => ?_) (fun hc6 hs2 => ?_)
    ·refine .skip (k30 _ _ ?_)
     refine .q fun K32 k32 => (.block ?_)
     refine rg 0 ?_
     obtain ⟨x16, hx16, hs2⟩ := ob hs2
     refine cg [0] [] [.ptr 0 0, .agg [.i s7.2.2.2.2.2.2.2.1, .str s7.2.2.2.2.2.2.2.2.1, .i s7.2.2.2.2.2.2.2.2.2.1, .i s7.2.2.2.2.2.2.2.2.2.2.1, .str s7.2.2.2.2.2.2.2.2.2.2.2.1, aH s7.2.2.2.2.2.2.2.2.2.2.2.2.1, aZ s7.2.2.2.2.2.2.2.2.2.2.2.2.2], .i s7.1] (qbo _ _ _ _ _ _ _ _ _ _ hx16) (bD x16.1) [.box [.str p0, .i x16.2.1, .str x16.2.2.1, .i x16.2.2.2.1, .i x16.2.2.2.2.1, .i x16.2.2.2.2.2.1, .i x16.2.2.2.2.2.2]] (k32 _ _ ?_)
     refine .know 8 0 fun hv1 => (rg 0 ?_)
     refine ⟨(IntKind.wrap .i64 (s7.1 - 1)), rfl, ?_⟩
     exact hKL2 _ _ _ hs2 (li (.s (.u (.s (.u (.s (.u2 (.u (.s (.u16 (.u16 (.u16 (.u16 (.u16 (.u8 (.u4 (.u .n)))))))))))))))))
    refine .exit ?_
    exact hR6 _ (sj hs2).symm _ _ (li (.s (.u (.s (.u (.s (.u16 (.u16 (.u16 (.u16 (.u16 (.u16 (.u .n)))))))))))))
   refine rg 0 (cg [0] [] [.ptr 0 0] (iJ 0 p0 x13.2.1 x13.2.2.1 x13.2.2.2.1 x13.2.2.2.2.1 x13.2.2.2.2.2.1 x13.2.2.2.2.2.2 _ rfl) (.bool (x13.2.2.2.2.2.2 == 0)) [.box [.str p0, .i x13.2.1, .str x13.2.2.1, .i x13.2.2.2.1, .i x13.2.2.2.2.1, .i x13.2.2.2.2.2.1, .i x13.2.2.2.2.2.2]] ?_)
   refine aD hj4 (fun hc7 hj4 => ?_) (fun hc7 hj4 => ?_)
   ·obtain ⟨x17, hx17, hj4⟩ := ob hj4
    refine cg [0] [] [.ptr 0 0, .str ([124] : Str)] (eO _ _ _ _ _ _ _ _ _ _ hx17) (.bool x17) [.box [.str p0, .i x13.2.1, .str x13.2.2.1, .i x13.2.2.2.1, .i x13.2.2.2.2.1, .i x13.2.2.2.2.2.1, .i x13.2.2.2.2.2.2]] ?_
    cases hj4
    exact hR5 _ _ (li (.s (.u (.s (.u (.s (.s (.s (.u16 (.u16 (.u8 (.u4 (.u2 (.u (.s (.u16 (.u16 (.u8 (.u4 (.u2 (.u .n)))))))))))))))))))))
   cases hj4
   exact hR5 _ _ (li (.s (.u (.s (.u (.s (.s (.s (.u16 (.u16 (.u8 (.u4 (.u2 (.u (.s (.u16 (.u16 (.u8 (.u4 (.u2 (.u .n)))))))))))))))))))))
  refine rg 0 ?_
  obtain ⟨x18, hx18, hj1⟩ := ob hj1
  refine cg [0] [] [.ptr 0 0, .i 1] (qbq _ _ _ _ _ _ _ _ _ hx18) (bD x18.1) [.box [.str p0, .i x18.2.1, .str x18.2.2.1, .i x18.2.2.2.1, .i x18.2.2.2.2.1, .i x18.2.2.2.2.2.1, .i x18.2.2.2.2.2.2]] ?_
  exact hR1 _ (sj hj1).symm _ _ (wk [some 0, some 1, some 2] (.c rfl (.u (.c rfl (.u (.c rfl (.u64 (.u32 (.u .nil)))))))) (.b rfl (.c7 .nil) (.b rfl (.c7 .nil) (.b rfl (.c4 (.c rfl (.e aA (.e aK .nil)))) .nil))) rfl)
 refine rg 0 (cg [0] [] [.ptr 0 0] (iJ 0 p0 p1 p2 p3 p4 p5 p6 _ rfl) (.bool (p6 == 0)) [.box [.str p0, .i p1, .str p2, .i p3, .i p4, .i p5, .i p6]] ?_)
 refine aD hj3 (fun hc8 hj3 => ?_) (fun hc8 hj3 => ?_)
 ·refine aD hj3 (fun hc9 hj3 => ?_) (fun hc9 hj3 => ?_)
  ·obtain ⟨x19, hx19, hj3⟩ := ob hj3
   refine aj (CZ _ _ _ hx19) aM (.cons (.same _) .nil) (fun g => rfl) (fun g => rfl) (aD hj3 (fun hc10 hj3 => ?_) (fun hc10 hj3 => ?_))
   ·obtain ⟨x20, hx20, hj3⟩ := ob hj3
    refine cg [0] [] [.ptr 0 0] (Pq _ _ _ _ _ _ _ _ _ hx20) (.bool x20) [.box [.str p0, .i p1, .str p2, .i p3, .i p4, .i p5, .i p6]] ?_
    cases hj3
    exact s9x1 (hR4 _ _)
   cases hj3
   exact s9x1 (hR4 _ _)
  cases hj3
  exact s9x1 (hR4 _ _)
 cases hj3
 exact s9x1 (hR4 _ _)
theorem M8 (n : Nat) (qdc : Str → Int → Str → Int → Int → Int → Int → Int → Option Y7) (qdf : Str → Int → Str → Int → Int → Int → Int → Tm → Int → Option Y7) (qdd : Str → Int → Str → Int → Int → Int → Int → Option Y7) (qdb : Str → Int → Str → Int → Int → Int → Int → Option Y7) (qdg : Str → Int → Str → Int → Int → Int → Int → Option Y7) (qdh : Str → Int → Str → Int → Int → Int → Int → Int → Option Y7) (qde : Str → Int → Str → Int → Int → Int → Int → Str → Option Y7) (qbl : qan qdc) (qbo : qaq qdf) (qbm : qao qdd) (qbk : qam qdb) (qbp : qar qdg) (qbq : qas qdh) (qbn : qap qde) (p0 : Str) (p1 : Int) (p2 : Str) (p3 p4 : Int) (p5 p6 : Int) (r : Y7) (h : mQ n qdc qdf qdd qdb qdg qdh qde p0 p1 p2 p3 p4 p5 p6 = some r) : aB Tryz.prog 239 [.ptr 0 0] [.box [.str p0, .i p1, .str p2, .i p3, .i p4, .i p5, .i p6]] (bD r.1) [.box [.str p0, .i r.2.1, .str r.2.2.1, .i r.2.2.2.1, .i r.2.2.2.2.1, .i r.2.2.2.2.2.1, .i r.2.2.2.2.2.2]] := by
 unfold mQ at h
 refine ah true Tryz.func239 rfl (nt Tryz.ntmps239 rfl) fun Q hQ t ht => ?_
 conv at ht => whnf
 subst ht
 refine .r1 fun K1 k1 => (k1 _ _ ?_)
 refine .r1 fun K2 k2 => (k2 _ _ ?_)
 refine .q fun K3 k3 => (.block ?_)
 refine .r fun K4 k4 => (cg [0] [] [.ptr 0 0] (iJ 0 p0 p1 p2 p3 p4 p5 p6 _ rfl) (.bool (p6 == 0)) [.box [.str p0, .i p1, .str p2, .i p3, .i p4, .i p5, .i p6]] ?_)
 refine k4 _ _ (.ak rfl h (fun hc1 h => ?_) (fun hc1 h => ?_))
 ·refine .r fun K5 k5 => (k5 _ _ ?_)
  refine .ret ?_
  obtain rfl := sj h
  exact hQ _ _ _ (rI [0])
 refine .r fun K6 k6 => (k6 _ _ ?_)
 refine .ak rfl h (fun hc2 h => ?_) (fun hc2 h => ?_)
 ·refine .r fun K7 k7 => ?_
  obtain ⟨x1, hx1, h⟩ := ob h
  refine cg [0] [] [.ptr 0 0] (cK _ _ _ _ _ _ _ _ _ hx1) (.aW []) [.box [.str p0, .i x1.1, .str x1.2.1, .i x1.2.2.1, .i x1.2.2.2.1, .i x1.2.2.2.2.1, .i x1.2.2.2.2.2]] (k7 _ _ ?_)
  refine .r fun K8 k8 => (k8 _ _ ?_)
  refine .ret ?_
  obtain rfl := sj h
  exact hQ _ _ _ (rI [0])
 refine .r fun K9 k9 => (k9 _ _ ?_)
 refine .ak rfl h (fun hc3 h => ?_) (fun hc3 h => ?_)
 ·refine .r fun K10 k10 => ?_
  obtain ⟨x2, hx2, h⟩ := ob h
  refine cg [0] [] [.ptr 0 0] (cK _ _ _ _ _ _ _ _ _ hx2) (.aW []) [.box [.str p0, .i x2.1, .str x2.2.1, .i x2.2.2.1, .i x2.2.2.2.1, .i x2.2.2.2.2.1, .i x2.2.2.2.2.2]] (k10 _ _ ?_)
  refine .r fun K11 k11 => ?_
  obtain ⟨x3, hx3, h⟩ := ob h
  refine aj (SN _ _ _ hx3) aM (.cons (.same _) .nil) (fun g => rfl) (fun g => rfl) (k11 _ _ ?_)
  refine .ret ?_
  obtain rfl := sj h
  exact hQ _ _ _ (rI [0])
 refine .r fun K12 k12 => ?_
 obtain ⟨x4, hx4, h⟩ := ob h
 refine cg [0] [] [.ptr 0 0, .str ([116, 114, 117, 101] : Str)] (eO _ _ _ _ _ _ _ _ _ _ hx4) (.bool x4) [.box [.str p0, .i p1, .str p2, .i p3, .i p4, .i p5, .i p6]] (k12 _ _ ?_)
 refine .ak rfl h (fun hc4 h => ?_) (fun hc4 h => ?_)
 ·refine .r fun K13 k13 => ?_
  obtain ⟨x5, hx5, h⟩ := ob h
  refine cg [0] [] [.ptr 0 0] (cK _ _ _ _ _ _ _ _ _ hx5) (.aW []) [.box [.str p0, .i x5.1, .str x5.2.1, .i x5.2.2.1, .i x5.2.2.2.1, .i x5.2.2.2.2.1, .i x5.2.2.2.2.2]] (k13 _ _ ?_)
  refine .r fun K14 k14 => (k14 _ _ ?_)
  refine .ret ?_
  obtain rfl := sj h
  exact hQ _ _ _ (rI [0])
 refine .r fun K15 k15 => ?_
 obtain ⟨x6, hx6, h⟩ := ob h
 refine cg [0] [] [.ptr 0 0, .str ([102, 97, 108, 115, 101] : Str)] (eO _ _ _ _ _ _ _ _ _ _ hx6) (.bool x6) [.box [.str p0, .i p1, .str p2, .i p3, .i p4, .i p5, .i p6]] (k15 _ _ ?_)
 refine .ak rfl h (fun hc5 h => ?_) (fun hc5 h => ?_)
 ·refine .r fun K16 k16 => ?_
  obtain ⟨x7, hx7, h⟩ := ob h
  refine cg [0] [] [.ptr 0 0] (cK _ _ _ _ _ _ _ _ _ hx7) (.aW []) [.box [.str p0, .i x7.1, .str x7.2.1, .i x7.2.2.1, .i x7.2.2.2.1, .i x7.2.2.2.2.1, .i x7.2.2.2.2.2]] (k16 _ _ ?_)
  refine .r fun K17 k17 => (k17 _ _ ?_)
  refine .ret ?_
  obtain rfl := sj h
  exact hQ _ _ _ (rI [0])
 refine .r fun K18 k18 => ?_
 obtain ⟨x8, hx8, h⟩ := ob h
 refine cg [0] [] [.ptr 0 0, .str ([40] : Str)] (eO _ _ _ _ _ _ _ _ _ _ hx8) (.bool x8) [.box [.str p0, .i p1, .str p2, .i p3, .i p4, .i p5, .i p6]] (k18 _ _ ?_)
 refine .ak rfl h (fun hc6 h => ?_) (fun hc6 h => ?_)
 ·refine .r fun K19 k19 => ?_
  obtain ⟨x9, hx9, h⟩ := ob h
  refine cg [0] [] [.ptr 0 0] (cK _ _ _ _ _ _ _ _ _ hx9) (.aW []) [.box [.str p0, .i x9.1, .str x9.2.1, .i x9.2.2.1, .i x9.2.2.2.1, .i x9.2.2.2.2.1, .i x9.2.2.2.2.2]] (k19 _ _ ?_)
  refine .r fun K20 k20 => ?_
  obtain ⟨x10, hx10, h⟩ := ob h
  refine cg [0] [] [.ptr 0 0, .str ([41] : Str)] (qbn _ _ _ _ _ _ _ _ _ hx10) (bD x10.1) [.box [.str p0, .i x10.2.1, .str x10.2.2.1, .i x10.2.2.2.1, .i x10.2.2.2.2.1, .i x10.2.2.2.2.2.1, .i x10.2.2.2.2.2.2]] (k20 _ _ ?_)
  refine .ret ?_
  obtain rfl := sj h
  exact hQ _ _ _ (rI [0])
 refine .r fun K21 k21 => ?_
 obtain ⟨x11, hx11, h⟩ := ob h
 refine cg [0] [] [.ptr 0 0, .str ([123] : Str)] (eO _ _ _ _ _ _ _ _ _ _ hx11) (.bool x11) [.box [.str p0, .i p1, .str p2, .i p3, .i p4, .i p5, .i p6]] (k21 _ _ ?_)
 refine .ak rfl h (fun hc7 h => ?_) (fun hc7 h => ?_)
 ·refine .r fun K22 k22 => ?_
  obtain ⟨x12, hx12, h⟩ := ob h
  refine cg [0] [] [.ptr 0 0] (cK _ _ _ _ _ _ _ _ _ hx12) (.aW []) [.box [.str p0, .i x12.1, .str x12.2.1, .i x12.2.2.1, .i x12.2.2.2.1, .i x12.2.2.2.2.1, .i x12.2.2.2.2.2]] (k22 _ _ ?_)
  refine .r fun K23 k23 => ?_
  obtain ⟨x13, hx13, h⟩ := ob h
  refine cg [0] [] [.ptr 0 0] (qbm _ _ _ _ _ _ _ _ hx13) (bD x13.1) [.box [.str p0, .i x13.2.1, .str x13.2.2.1, .i x13.2.2.2.1, .i x13.2.2.2.2.1, .i x13.2.2.2.2.2.1, .i x13.2.2.2.2.2.2]] (k23 _ _ ?_)
  refine .ret ?_
  obtain rfl := sj h
  exact hQ _ _ _ (rI [0])
 refine .r fun K24 k24 => ?_
 obtain ⟨x14, hx14, h⟩ := ob h
 refine cg [0] [] [.ptr 0 0, .str ([102, 111, 114, 97, 108, 108] : Str)] (eO _ _ _ _ _ _ _ _ _ _ hx14) (.bool x14) [.box [.str p0, .i p1, .str p2, .i p3, .i p4, .i p5, .i p6]] (k24 _ _ ?_)
 refine .ak rfl h (fun hc8 h => ?_) (fun hc8 h => ?_)
 ·refine .r fun K25 k25 => ?_
  obtain ⟨x15, hx15, h⟩ := ob h
  refine cg [0] [] [.ptr 0 0, .i 8] (qbl _ _ _ _ _ _ _ _ _ hx15) (bD x15.1) [.box [.str p0, .i x15.2.1, .str x15.2.2.1, .i x15.2.2.2.1, .i x15.2.2.2.2.1, .i x15.2.2.2.2.2.1, .i x15.2.2.2.2.2.2]] (k25 _ _ ?_)
  refine .ret ?_
  obtain rfl := sj h
  exact hQ _ _ _ (rI [0])
 refine .r fun K26 k26 => ?_
 obtain ⟨x16, hx16, h⟩ := ob h
 refine cg [0] [] [.ptr 0 0, .str ([101, 120, 105, 115, 116, 115] : Str)] (eO _ _ _ _ _ _ _ _ _ _ hx16) (.bool x16) [.box [.str p0, .i p1, .str p2, .i p3, .i p4, .i p5, .i p6]] (k26 _ _ ?_)
 refine .ak rfl h (fun hc9 h => ?_) (fun hc9 h => ?_)
 ·refine .r fun K27 k27 => ?_
  obtain ⟨x17, hx17, h⟩ := ob h
  refine cg [0] [] [.ptr 0 0, .i 9] (qbl _ _ _ _ _ _ _ _ _ hx17) (bD x17.1) [.box [.str p0, .i x17.2.1, .str x17.2.2.1, .i x17.2.2.2.1, .i x17.2.2.2.2.1, .i x17.2.2.2.2.2.1, .i x17.2.2.2.2.2.2]] (k27 _ _ ?_)
  refine .ret ?_
  obtain rfl := sj h
  exact hQ _ _ _ (rI [0])
 refine .r fun K28 k28 => ?_
 obtain ⟨x18, hx18, h⟩ := ob h
 refine cg [0] [] [.ptr 0 0, .str ([102, 117, 110] : Str)] (eO _ _ _ _ _ _ _ _ _ _ hx18) (.bool x18) [.box [.str p0, .i p1, .str p2, .i p3, .i p4, .i p5, .i p6]] (k28 _ _ ?_)
 refine .ak rfl h (fun hc10 h => ?_) (fun hc10 h => ?_)
 ·refine .r fun K29 k29 => ?_
  obtain ⟨x19, hx19, h⟩ := ob h
  refine cg [0] [] [.ptr 0 0, .i 56] (qbl _ _ _ _ _ _ _ _ _ hx19) (bD x19.1) [.box [.str p0, .i x19.2.1, .str x19.2.2.1, .i x19.2.2.2.1, .i x19.2.2.2.2.1, .i x19.2.2.2.2.2.1, .i x19.2.2.2.2.2.2]] (k29 _ _ ?_)
  refine .ret ?_
  obtain rfl := sj h
  exact hQ _ _ _ (rI [0])
 refine .q fun K30 k30 => ?_
 obtain ⟨s1, hj1, h⟩ := ob h
 have hR1 : ∀ t9 h9, Le 1 t9 h9 (.ptr 0 0 :: (.unk :: (.ptr 1 0 :: (.ptr 2 0 :: (u64 (u4 (.unk :: (.bool s1 :: (u16 (u4 (u2 (.unk :: [])))))))))))) [.box [.str p0, .i p1, .str p2, .i p3, .i p4, .i p5, .i p6], .box [.i 0, .str ([] : Str), .i 0, .i 0, .str ([] : Str), .slice (List.map aI ([] : List Ty)) .nils, .slice (List.map aN ([] : List Tm)) .nils], .box [.i p1, .str p2, .i p3]] → K30 t9 h9 := by
  intro t9 h9 hw
  refine k30 _ _ (AW.le hw ?_)
  clear hw
  refine .ak rfl h (fun hc11 h => ?_) (fun hc11 h => ?_)
  ·refine .r fun K31 k31 => ?_
   obtain ⟨x20, hx20, h⟩ := ob h
   refine cg [0] [] [.ptr 0 0] (cK _ _ _ _ _ _ _ _ _ hx20) (.aW []) [.box [.str p0, .i x20.1, .str x20.2.1, .i x20.2.2.1, .i x20.2.2.2.1, .i x20.2.2.2.2.1, .i x20.2.2.2.2.2]] (k31 _ _ ?_)
   refine .r fun K32 k32 => ?_
   obtain ⟨x21, hx21, h⟩ := ob h
   refine cg [0] [] [.ptr 0 0, .str ([40] : Str)] (ig _ _ _ _ _ _ _ _ _ _ hx21) (.aW []) [.box [.str p0, .i x21.1, .str x21.2.1, .i x21.2.2.1, .i x21.2.2.2.1, .i x21.2.2.2.2.1, .i x21.2.2.2.2.2]] (k32 _ _ ?_)
   refine .r1 fun K33 k33 => ?_
   obtain ⟨x22, hx22, h⟩ := ob h
   refine aj (Ux _ _ _ hx22) aM (.cons (.same _) .nil) (fun g => rfl) (fun g => rfl) ?_
   obtain ⟨x23, hx23, h⟩ := ob h
   refine cg [0] [] [.ptr 0 0, .str ([41] : Str)] (qbn _ _ _ _ _ _ _ _ _ hx23) (bD x23.1) [.box [.str p0, .i x23.2.1, .str x23.2.2.1, .i x23.2.2.2.1, .i x23.2.2.2.2.1, .i x23.2.2.2.2.2.1, .i x23.2.2.2.2.2.2]] (⟨List.map aN ([x23.1]), by simp only [List.map_cons, List.map_nil, aS]; rfl, ?_⟩)
   refine k33 _ _ (.ret ?_)
   obtain rfl := sj h
   exact hQ _ _ _ (rI [0])
  refine .skip (k3 _ _ ?_)
  refine .r fun K34 k34 => ?_
  obtain ⟨x24, hx24, h⟩ := ob h
  refine cg [0] [] [.ptr 0 0] (uL _ _ _ _ _ _ _ _ _ hx24) (.aW []) [.box [.str p0, .i p1, .str p2, .i p3, .i p4, .i x24.1, .i x24.2]] (k34 _ _ ?_)
  refine .r fun K35 k35 => (k35 _ _ ?_)
  refine .ret ?_
  obtain rfl := sj h
  exact hQ _ _ _ (rI [0])
 refine rg 0 (aD hj1 (fun hc12 hj1 => ?_) (fun hc12 hj1 => ?_))
 ·obtain ⟨x25, hx25, hj1⟩ := ob hj1
  refine aj (Ux _ _ _ hx25) aM (.cons (.same _) .nil) (fun g => rfl) (fun g => rfl) ?_
  cases hj1
  exact hR1 _ _ (li (.s (.u (.s (.s (.u16 (.u16 (.u16 (.u16 (.u4 (.u (.s (.u16 (.u4 (.u2 (.u .n))))))))))))))))
 cases hj1
 exact hR1 _ _ (li (.s (.u (.s (.s (.u16 (.u16 (.u16 (.u16 (.u4 (.u (.s (.u16 (.u4 (.u2 (.u .n))))))))))))))))
theorem JM (n : Nat) (qdc : Str → Int → Str → Int → Int → Int → Int → Int → Option Y7) (qdf : Str → Int → Str → Int → Int → Int → Int → Tm → Int → Option Y7) (qdd : Str → Int → Str → Int → Int → Int → Int → Option Y7) (qdb : Str → Int → Str → Int → Int → Int → Int → Option Y7) (qdg : Str → Int → Str → Int → Int → Int → Int → Option Y7) (qdh : Str → Int → Str → Int → Int → Int → Int → Int → Option Y7) (qde : Str → Int → Str → Int → Int → Int → Int → Str → Option Y7) (qbl : qan qdc) (qbo : qaq qdf) (qbm : qao qdd) (qbk : qam qdb) (qbp : qar qdg) (qbq : qas qdh) (qbn : qap qde) (p0 : Str) (p1 : Int) (p2 : Str) (p3 p4 : Int) (p5 p6 : Int) (r : Y7) (h : pz n qdc qdf qdd qdb qdg qdh qde p0 p1 p2 p3 p4 p5 p6 = some r) : aB Tryz.prog 159 [.ptr 0 0] [.box [.str p0, .i p1, .str p2, .i p3, .i p4, .i p5, .i p6]] (bD r.1) [.box [.str p0, .i r.2.1, .str r.2.2.1, .i r.2.2.2.1, .i r.2.2.2.2.1, .i r.2.2.2.2.2.1, .i r.2.2.2.2.2.2]] := by
 unfold pz at h
 refine ah true Tryz.func159 rfl (nt Tryz.ntmps159 rfl) fun Q hQ t ht => ?_
 conv at ht => whnf
 subst ht
 refine .r1 fun K1 k1 => (k1 _ _ ?_)
 refine .r1 fun K2 k2 => ?_
 obtain ⟨x1, hx1, h⟩ := ob h
 refine cg [0] [] [.ptr 0 0] (qbk _ _ _ _ _ _ _ _ hx1) (bD x1.1) [.box [.str p0, .i x1.2.1, .str x1.2.2.1, .i x1.2.2.2.1, .i x1.2.2.2.2.1, .i x1.2.2.2.2.2.1, .i x1.2.2.2.2.2.2]] (k2 _ _ ?_)
 refine .q fun K3 k3 => (.block ?_)
 obtain ⟨o1, ho1, h⟩ := ob h
 have hR1 : ∀ s2 : Int × Str × Int × Int × Int × Int × Int × Str × Int × Int × Str × (List Ty) × (List Tm), o1 = .nx s2 → ∀ t9 h9, Le 1 t9 h9 (u2 (.ptr 1 0 :: (.ptr 2 0 :: (u32 (u4 (u2 [])))))) [.box [.str p0, .i s2.1, .str s2.2.1, .i s2.2.2.1, .i s2.2.2.2.1, .i s2.2.2.2.2.1, .i s2.2.2.2.2.2.1], .box [.i 0, .str ([] : Str), .i 0, .i 0, .str ([] : Str), .slice (List.map aI ([] : List Ty)) .nils, .slice (List.map aN ([] : List Tm)) .nils], .box [.i s2.2.2.2.2.2.2.1, .str s2.2.2.2.2.2.2.2.1, .i s2.2.2.2.2.2.2.2.2.1, .i s2.2.2.2.2.2.2.2.2.2.1, .str s2.2.2.2.2.2.2.2.2.2.2.1, aH s2.2.2.2.2.2.2.2.2.2.2.2.1, aZ s2.2.2.2.2.2.2.2.2.2.2.2.2]] → K3 t9 h9 := by
  intro s2 ho
  subst ho
  dsimp only [LR.el] at h
  intro t9 h9 hw
  refine k3 _ _ (AW.le hw ?_)
  refine .r fun K4 k4 => (k4 _ _ ?_)
  refine .ret ?_
  obtain rfl := sj h
  exact hQ _ _ _ (rI [0])
 refine .loopS (jU n qdc qdf qdd qdb qdg qdh qde p0) (fun (s1 : Int × Str × Int × Int × Int × Int × Int × Str × Int × Int × Str × (List Ty) × (List Tm)) => (.ptr 0 0 :: (.unk :: (.ptr 1 0 :: (.ptr 2 0 :: (u32 (u4 (u2 [])))))))) (fun (s1 : Int × Str × Int × Int × Int × Int × Int × Str × Int × Int × Str × (List Ty) × (List Tm)) => [.box [.str p0, .i s1.1, .str s1.2.1, .i s1.2.2.1, .i s1.2.2.2.1, .i s1.2.2.2.2.1, .i s1.2.2.2.2.2.1], .box [.i 0, .str ([] : Str), .i 0, .i 0, .str ([] : Str), .slice (List.map aI ([] : List Ty)) .nils, .slice (List.map aN ([] : List Tm)) .nils], .box [.i s1.2.2.2.2.2.2.1, .str s1.2.2.2.2.2.2.2.1, .i s1.2.2.2.2.2.2.2.2.1, .i s1.2.2.2.2.2.2.2.2.2.1, .str s1.2.2.2.2.2.2.2.2.2.2.1, aH s1.2.2.2.2.2.2.2.2.2.2.2.1, aZ s1.2.2.2.2.2.2.2.2.2.2.2.2]]) ho1 (fun _ => rfl) (li (.s (.u (.s (.s (.u16 (.u16 (.u4 (.u2 .n))))))))) ?_
 intro n1 s1 hs1 KL1 hKL1
 unfold jU at hs1
 refine .q fun K5 k5 => .r fun K6 k6 => (cg [0] [] [.ptr 0 0] (iJ 0 p0 s1.1 s1.2.1 s1.2.2.1 s1.2.2.2.1 s1.2.2.2.2.1 s1.2.2.2.2.2.1 _ rfl) (.bool (s1.2.2.2.2.2.1 == 0)) [.box [.str p0, .i s1.1, .str s1.2.1, .i s1.2.2.1, .i s1.2.2.2.1, .i s1.2.2.2.2.1, .i s1.2.2.2.2.2.1]] ?_)
 refine k6 _ _ (.ak rfl hs1 (fun hc1 hs1 => ?_) (fun hc1 hs1 => ?_))
 ·refine .skip (k5 _ _ ?_)
  refine .block (.block ?_)
  refine .r fun K7 k7 => ?_
  obtain ⟨x2, hx2, hs1⟩ := ob hs1
  refine cg [0] [] [.ptr 0 0, .str ([40] : Str)] (eO _ _ _ _ _ _ _ _ _ _ hx2) (.bool x2) [.box [.str p0, .i s1.1, .str s1.2.1, .i s1.2.2.1, .i s1.2.2.2.1, .i s1.2.2.2.2.1, .i s1.2.2.2.2.2.1]] (k7 _ _ ?_)
  refine .ak rfl hs1 (fun hc2 hs1 => ?_) (fun hc2 hs1 => ?_)
  ·refine .r fun K8 k8 => ?_
   obtain ⟨x3, hx3, hs1⟩ := ob hs1
   refine cg [0] [] [.ptr 0 0] (cK _ _ _ _ _ _ _ _ _ hx3) (.aW []) [.box [.str p0, .i x3.1, .str x3.2.1, .i x3.2.2.1, .i x3.2.2.2.1, .i x3.2.2.2.2.1, .i x3.2.2.2.2.2]] (k8 _ _ ?_)
   refine .r1 fun K9 k9 => ?_
   obtain ⟨x4, hx4, hs1⟩ := ob hs1
   refine cg [0] [] [.ptr 0 0, .str ([41] : Str)] (qbn _ _ _ _ _ _ _ _ _ hx4) (bD x4.1) [.box [.str p0, .i x4.2.1, .str x4.2.2.1, .i x4.2.2.2.1, .i x4.2.2.2.2.1, .i x4.2.2.2.2.2.1, .i x4.2.2.2.2.2.2]] (k9 _ _ ?_)
   refine rg 1 (⟨List.map aN ([(Tm.mk s1.2.2.2.2.2.2.1 s1.2.2.2.2.2.2.2.1 s1.2.2.2.2.2.2.2.2.1 (Ty.mk s1.2.2.2.2.2.2.2.2.2.1 s1.2.2.2.2.2.2.2.2.2.2.1 s1.2.2.2.2.2.2.2.2.2.2.2.1) s1.2.2.2.2.2.2.2.2.2.2.2.2), x4.1]), by simp only [List.map_cons, List.map_nil, aS]; rfl, ?_⟩)
   exact hKL1 _ _ _ hs1 (wk [some 0, some 1, some 2] (.c rfl (.u (.c2 (.u32 (.u4 (.u2 .nil)))))) (.b rfl (.c7 .nil) (.b rfl (.c7 .nil) (.b rfl (.c4 (.c rfl (.cons (.share rfl) (.e aK .nil)))) .nil))) rfl)
  refine .r fun K10 k10 => ?_
  obtain ⟨x5, hx5, hs1⟩ := ob hs1
  refine cg [0] [] [.ptr 0 0, .str ([91] : Str)] (eO _ _ _ _ _ _ _ _ _ _ hx5) (.bool x5) [.box [.str p0, .i s1.1, .str s1.2.1, .i s1.2.2.1, .i s1.2.2.2.1, .i s1.2.2.2.2.1, .i s1.2.2.2.2.2.1]] (k10 _ _ ?_)
  refine .ak rfl hs1 (fun hc3 hs1 => ?_) (fun hc3 hs1 => ?_)
  ·refine .r fun K11 k11 => ?_
   obtain ⟨x6, hx6, hs1⟩ := ob hs1
   refine cg [0] [] [.ptr 0 0] (cK _ _ _ _ _ _ _ _ _ hx6) (.aW []) [.box [.str p0, .i x6.1, .str x6.2.1, .i x6.2.2.1, .i x6.2.2.2.1, .i x6.2.2.2.2.1, .i x6.2.2.2.2.2]] (k11 _ _ ?_)
   refine .r1 fun K12 k12 => ?_
   obtain ⟨x7, hx7, hs1⟩ := ob hs1
   refine cg [0] [] [.ptr 0 0, .str ([93] : Str)] (qbn _ _ _ _ _ _ _ _ _ hx7) (bD x7.1) [.box [.str p0, .i x7.2.1, .str x7.2.2.1, .i x7.2.2.2.1, .i x7.2.2.2.2.1, .i x7.2.2.2.2.2.1, .i x7.2.2.2.2.2.2]] (k12 _ _ ?_)
   refine rg 1 (⟨List.map aN ([(Tm.mk s1.2.2.2.2.2.2.1 s1.2.2.2.2.2.2.2.1 s1.2.2.2.2.2.2.2.2.1 (Ty.mk s1.2.2.2.2.2.2.2.2.2.1 s1.2.2.2.2.2.2.2.2.2.2.1 s1.2.2.2.2.2.2.2.2.2.2.2.1) s1.2.2.2.2.2.2.2.2.2.2.2.2), x7.1]), by simp only [List.map_cons, List.map_nil, aS]; rfl, ?_⟩)
   exact hKL1 _ _ _ hs1 (wk [some 0, some 1, some 2] (.c rfl (.u (.c2 (.u32 (.u4 (.u2 .nil)))))) (.b rfl (.c7 .nil) (.b rfl (.c7 .nil) (.b rfl (.c4 (.c rfl (.cons (.share rfl) (.e aK .nil)))) .nil))) rfl)
  refine .r fun K13 k13 => ?_
  obtain ⟨x8, hx8, hs1⟩ := ob hs1
  refine cg [0] [] [.ptr 0 0, .str ([126] : Str)] (eO _ _ _ _ _ _ _ _ _ _ hx8) (.bool x8) [.box [.str p0, .i s1.1, .str s1.2.1, .i s1.2.2.1, .i s1.2.2.2.1, .i s1.2.2.2.2.1, .i s1.2.2.2.2.2.1]] (k13 _ _ ?_)
  refine .ak rfl hs1 (fun hc4 hs1 => ?_) (fun hc4 hs1 => ?_)
  ·refine .r fun K14 k14 => ?_
   obtain ⟨x9, hx9, hs1⟩ := ob hs1
   refine cg [0] [] [.ptr 0 0] (cK _ _ _ _ _ _ _ _ _ hx9) (.aW []) [.box [.str p0, .i x9.1, .str x9.2.1, .i x9.2.2.1, .i x9.2.2.2.1, .i x9.2.2.2.2.1, .i x9.2.2.2.2.2]] (k14 _ _ ?_)
   refine rg 1 (⟨List.map aN ([(Tm.mk s1.2.2.2.2.2.2.1 s1.2.2.2.2.2.2.2.1 s1.2.2.2.2.2.2.2.2.1 (Ty.mk s1.2.2.2.2.2.2.2.2.2.1 s1.2.2.2.2.2.2.2.2.2.2.1 s1.2.2.2.2.2.2.2.2.2.2.2.1) s1.2.2.2.2.2.2.2.2.2.2.2.2)]), by simp only [List.map_cons, List.map_nil, aS]; rfl, ?_⟩)
   exact hKL1 _ _ _ hs1 (wk [some 0, some 1, some 2] (.c rfl (.u (.c2 (.u32 (.u4 (.u2 .nil)))))) (.b rfl (.c7 .nil) (.b rfl (.c7 .nil) (.b rfl (.c4 (.c rfl (.cons (.share rfl) (.e aK .nil)))) .nil))) rfl)
  refine .r fun K15 k15 => (k15 _ _ ?_)
  refine .ret ?_
  obtain rfl := sj hs1
  dsimp only [LR.el] at h
  obtain rfl := sj h
  exact hQ _ _ _ (rI [0])
 refine .exit ?_
 exact hR1 _ (sj hs1).symm _ _ (li (.u2 (.s (.s (.u16 (.u16 (.u4 (.u2 .n))))))))
theorem Nk (n : Nat) (qdc : Str → Int → Str → Int → Int → Int → Int → Int → Option Y7) (qdf : Str → Int → Str → Int → Int → Int → Int → Tm → Int → Option Y7) (qdd : Str → Int → Str → Int → Int → Int → Int → Option Y7) (qdb : Str → Int → Str → Int → Int → Int → Int → Option Y7) (qdg : Str → Int → Str → Int → Int → Int → Int → Option Y7) (qdh : Str → Int → Str → Int → Int → Int → Int → Int → Option Y7) (qde : Str → Int → Str → Int → Int → Int → Int → Str → Option Y7) (qbl : qan qdc) (qbo : qaq qdf) (qbm : qao qdd) (qbk : qam qdb) (qbp : qar qdg) (qbq : qas qdh) (qbn : qap qde) (p0 : Str) (p1 : Int) (p2 : Str) (p3 p4 : Int) (p5 p6 p7 : Int) (r : Y7) (h : jm n qdc qdf qdd qdb qdg qdh qde p0 p1 p2 p3 p4 p5 p6 p7 = some r) : aB Tryz.prog 82 [.ptr 0 0, .i p7] [.box [.str p0, .i p1, .str p2, .i p3, .i p4, .i p5, .i p6]] (bD r.1) [.box [.str p0, .i r.2.1, .str r.2.2.1, .i r.2.2.2.1, .i r.2.2.2.2.1, .i r.2.2.2.2.2.1, .i r.2.2.2.2.2.2]] := by
 unfold jm at h
 refine ah true Tryz.func82 rfl (nt Tryz.ntmps82 rfl) fun Q hQ t ht => ?_
 conv at ht => whnf
 subst ht
 refine .r1 fun K1 k1 => (k1 _ _ ?_)
 refine .q fun K2 k2 => (.block ?_)
 refine .r fun K3 k3 => (cg [0] [] [.ptr 0 0] (iJ 0 p0 p1 p2 p3 p4 p5 p6 _ rfl) (.bool (p6 == 0)) [.box [.str p0, .i p1, .str p2, .i p3, .i p4, .i p5, .i p6]] ?_)
 refine k3 _ _ (.ak rfl h (fun hc1 h => ?_) (fun hc1 h => ?_))
 ·refine .r fun K4 k4 => (k4 _ _ ?_)
  refine .ret ?_
  obtain rfl := sj h
  exact hQ _ _ _ (rI [0])
 refine .q fun K5 k5 => ?_
 obtain ⟨s1, hj1, h⟩ := ob h
 have hR1 : ∀ t9 h9, Le 1 t9 h9 (.ptr 0 0 :: (.i p7 :: (u2 (.ptr 1 0 :: (u4 (.unk :: (.bool s1 :: (u32 (u4 (.unk :: [])))))))))) [.box [.str p0, .i p1, .str p2, .i p3, .i p4, .i p5, .i p6], .box [.i 0, .str ([] : Str), .i 0, .i 0, .str ([] : Str), .slice (List.map aI ([] : List Ty)) .nils, .slice (List.map aN ([] : List Tm)) .nils]] → K5 t9 h9 := by
  intro t9 h9 hw
  refine k5 _ _ (AW.le hw ?_)
  clear hw
  refine .ak rfl h (fun hc2 h => ?_) (fun hc2 h => ?_)
  ·refine .r fun K6 k6 => ?_
   obtain ⟨x1, hx1, h⟩ := ob h
   refine cg [0] [] [.ptr 0 0] (cK _ _ _ _ _ _ _ _ _ hx1) (.aW []) [.box [.str p0, .i x1.1, .str x1.2.1, .i x1.2.2.1, .i x1.2.2.2.1, .i x1.2.2.2.2.1, .i x1.2.2.2.2.2]] (k6 _ _ ?_)
   refine .r1 fun K7 k7 => ?_
   obtain ⟨x2, hx2, h⟩ := ob h
   refine cg [0] [] [.ptr 0 0, .i 5] (qbq _ _ _ _ _ _ _ _ _ hx2) (bD x2.1) [.box [.str p0, .i x2.2.1, .str x2.2.2.1, .i x2.2.2.2.1, .i x2.2.2.2.2.1, .i x2.2.2.2.2.2.1, .i x2.2.2.2.2.2.2]] (⟨List.map aN ([x2.1]), by simp only [List.map_cons, List.map_nil, aS]; rfl, ?_⟩)
   refine k7 _ _ (.ret ?_)
   obtain rfl := sj h
   exact hQ _ _ _ (rI [0])
  refine .q fun K8 k8 => ?_
  obtain ⟨s2, hj2, h⟩ := ob h
  have hR2 : ∀ t9 h9, Le 1 t9 h9 (.ptr 0 0 :: (.i p7 :: (u2 (.ptr 1 0 :: (u16 (u2 (.bool s2 :: (u16 (u8 []))))))))) [.box [.str p0, .i p1, .str p2, .i p3, .i p4, .i p5, .i p6], .box [.i 0, .str ([] : Str), .i 0, .i 0, .str ([] : Str), .slice (List.map aI ([] : List Ty)) .nils, .slice (List.map aN ([] : List Tm)) .nils]] → K8 t9 h9 := by
   intro t9 h9 hw
   refine k8 _ _ (AW.le hw ?_)
   clear hw
   refine .ak rfl h (fun hc3 h => ?_) (fun hc3 h => ?_)
   ·refine .r fun K9 k9 => ?_
    obtain ⟨x3, hx3, h⟩ := ob h
    refine cg [0] [] [.ptr 0 0] (cK _ _ _ _ _ _ _ _ _ hx3) (.aW []) [.box [.str p0, .i x3.1, .str x3.2.1, .i x3.2.2.1, .i x3.2.2.2.1, .i x3.2.2.2.2.1, .i x3.2.2.2.2.2]] (k9 _ _ ?_)
    refine .r1 fun K10 k10 => ?_
    obtain ⟨x4, hx4, h⟩ := ob h
    refine cg [0] [] [.ptr 0 0, .i 13] (qbq _ _ _ _ _ _ _ _ _ hx4) (bD x4.1) [.box [.str p0, .i x4.2.1, .str x4.2.2.1, .i x4.2.2.2.1, .i x4.2.2.2.2.1, .i x4.2.2.2.2.2.1, .i x4.2.2.2.2.2.2]] (⟨List.map aN ([x4.1]), by simp only [List.map_cons, List.map_nil, aS]; rfl, ?_⟩)
    refine k10 _ _ (.ret ?_)
    obtain rfl := sj h
    exact hQ _ _ _ (rI [0])
   refine .r fun K11 k11 => (k11 _ _ ?_)
   refine .ak rfl h (fun hc4 h => ?_) (fun hc4 h => ?_)
   ·refine .r fun K12 k12 => ?_
    obtain ⟨x5, hx5, h⟩ := ob h
    refine cg [0] [] [.ptr 0 0] (qbp _ _ _ _ _ _ _ _ hx5) (bD x5.1) [.box [.str p0, .i x5.2.1, .str x5.2.2.1, .i x5.2.2.2.1, .i x5.2.2.2.2.1, .i x5.2.2.2.2.2.1, .i x5.2.2.2.2.2.2]] (k12 _ _ ?_)
    refine .ret ?_
    obtain rfl := sj h
    exact hQ _ _ _ (rI [0])
   refine .skip (k2 _ _ ?_)
   refine .r fun K13 k13 => (⟨(IntKind.wrap .i64 (p7 + 1)), rfl, ?_⟩)
   obtain ⟨x6, hx6, h⟩ := ob h
   refine cg [0] [] [.ptr 0 0, .i (IntKind.wrap .i64 (p7 + 1))] (qbq _ _ _ _ _ _ _ _ _ hx6) (bD x6.1) [.box [.str p0, .i x6.2.1, .str x6.2.2.1, .i x6.2.2.2.1, .i x6.2.2.2.2.1, .i x6.2.2.2.2.2.1, .i x6.2.2.2.2.2.2]] ?_
   obtain ⟨x7, hx7, h⟩ := ob h
   refine cg [0] [] [.ptr 0 0, bD x6.1, .i p7] (qbo _ _ _ _ _ _ _ _ _ _ hx7) (bD x7.1) [.box [.str p0, .i x7.2.1, .str x7.2.2.1, .i x7.2.2.2.1, .i x7.2.2.2.2.1, .i x7.2.2.2.2.2.1, .i x7.2.2.2.2.2.2]] (k13 _ _ ?_)
   refine .ret ?_
   obtain rfl := sj h
   exact hQ _ _ _ (rI [0])
  refine rg 0 (aD hj2 (fun hc5 hj2 => ?_) (fun hc5 hj2 => ?_))
  ·obtain ⟨x8, hx8, hj2⟩ := ob hj2
   refine cg [0] [] [.ptr 0 0, .str ([45] : Str)] (eO _ _ _ _ _ _ _ _ _ _ hx8) (.bool x8) [.box [.str p0, .i p1, .str p2, .i p3, .i p4, .i p5, .i p6]] ?_
   cases hj2
   exact hR2 _ _ (li (.s (.s (.u2 (.s (.u16 (.u2 (.s (.u16 (.u8 .n))))))))))
  cases hj2
  exact hR2 _ _ (li (.s (.s (.u2 (.s (.u16 (.u2 (.s (.u16 (.u8 .n))))))))))
 refine rg 0 (aD hj1 (fun hc6 hj1 => ?_) (fun hc6 hj1 => ?_))
 ·obtain ⟨x9, hx9, hj1⟩ := ob hj1
  refine cg [0] [] [.ptr 0 0, .str ([110, 111, 116] : Str)] (eO _ _ _ _ _ _ _ _ _ _ hx9) (.bool x9) [.box [.str p0, .i p1, .str p2, .i p3, .i p4, .i p5, .i p6]] ?_
  cases hj1
  exact hR1 _ _ (li (.s (.s (.u2 (.s (.u4 (.u (.s (.u16 (.u16 (.u4 (.u .n))))))))))))
 cases hj1
 exact hR1 _ _ (li (.s (.s (.u2 (.s (.u4 (.u (.s (.u16 (.u16 (.u4 (.u .n))))))))))))
theorem La (n : Nat) (qdc : Str → Int → Str → Int → Int → Int → Int → Int → Option Y7) (qdf : Str → Int → Str → Int → Int → Int → Int → Tm → Int → Option Y7) (qdd : Str → Int → Str → Int → Int → Int → Int → Option Y7) (qdb : Str → Int → Str → Int → Int → Int → Int → Option Y7) (qdg : Str → Int → Str → Int → Int → Int → Int → Option Y7) (qdh : Str → Int → Str → Int → Int → Int → Int → Int → Option Y7) (qde : Str → Int → Str → Int → Int → Int → Int → Str → Option Y7) (qbl : qan qdc) (qbo : qaq qdf) (qbm : qao qdd) (qbk : qam qdb) (qbp : qar qdg) (qbq : qas qdh) (qbn : qap qde) (p0 : Str) (p1 : Int) (p2 : Str) (p3 p4 : Int) (p5 p6 : Int) (p7 : Str) (r : Y7) (h : qo n qdc qdf qdd qdb qdg qdh qde p0 p1 p2 p3 p4 p5 p6 p7 = some r) : aB Tryz.prog 240 [.ptr 0 0, .str p7] [.box [.str p0, .i p1, .str p2, .i p3, .i p4, .i p5, .i p6]] (bD r.1) [.box [.str p0, .i r.2.1, .str r.2.2.1, .i r.2.2.2.1, .i r.2.2.2.2.1, .i r.2.2.2.2.2.1, .i r.2.2.2.2.2.2]] := by
 unfold qo at h
 refine ah true Tryz.func240 rfl (nt Tryz.ntmps240 rfl) fun Q hQ t ht => ?_
 conv at ht => whnf
 subst ht
 refine .r1 fun K1 k1 => (k1 _ _ ?_)
 refine .r1 fun K2 k2 => ?_
 obtain ⟨x1, hx1, h⟩ := ob h
 refine cg [0] [] [.ptr 0 0, .i 1] (qbq _ _ _ _ _ _ _ _ _ hx1) (bD x1.1) [.box [.str p0, .i x1.2.1, .str x1.2.2.1, .i x1.2.2.2.1, .i x1.2.2.2.2.1, .i x1.2.2.2.2.2.1, .i x1.2.2.2.2.2.2]] (k2 _ _ ?_)
 refine .r fun K3 k3 => ?_
 obtain ⟨x2, hx2, h⟩ := ob h
 refine cg [0] [] [.ptr 0 0, .str p7] (ig _ _ _ _ _ _ _ _ _ _ hx2) (.aW []) [.box [.str p0, .i x2.1, .str x2.2.1, .i x2.2.2.1, .i x2.2.2.2.1, .i x2.2.2.2.2.1, .i x2.2.2.2.2.2]] (k3 _ _ ?_)
 refine .r fun K4 k4 => (k4 _ _ ?_)
 refine .ret ?_
 obtain rfl := sj h
 exact hQ _ _ _ (rI [0])
theorem l5 (n : Nat) : qan (dY n) ∧ qaq (fO n) ∧ qao (fB n) ∧ qam (gN n) ∧ qar (fq n) ∧ qas (bI n) ∧ qap (dQ n) := by
 induction n with
 | zero => exact ⟨(fun p0 p1 p2 p3 p4 p5 p6 p7 r h => by unfold dY at h; cases h), (fun p0 p1 p2 p3 p4 p5 p6 p7 p8 r h => by unfold fO at h; cases h), (fun p0 p1 p2 p3 p4 p5 p6 r h => by unfold fB at h; cases h), (fun p0 p1 p2 p3 p4 p5 p6 r h => by unfold gN at h; cases h), (fun p0 p1 p2 p3 p4 p5 p6 r h => by unfold fq at h; cases h), (fun p0 p1 p2 p3 p4 p5 p6 p7 r h => by unfold bI at h; cases h), (fun p0 p1 p2 p3 p4 p5 p6 p7 r h => by unfold dQ at h; cases h)⟩
 | succ n ih =>
  exact ⟨(fun p0 p1 p2 p3 p4 p5 p6 p7 r h => LH n _ _ _ _ _ _ _ ih.1 ih.2.1 ih.2.2.1 ih.2.2.2.1 ih.2.2.2.2.1 ih.2.2.2.2.2.1 ih.2.2.2.2.2.2 p0 p1 p2 p3 p4 p5 p6 p7 r (by unfold dY at h; exact h)), (fun p0 p1 p2 p3 p4 p5 p6 p7 p8 r h => Nn n _ _ _ _ _ _ _ ih.1 ih.2.1 ih.2.2.1 ih.2.2.2.1 ih.2.2.2.2.1 ih.2.2.2.2.2.1 ih.2.2.2.2.2.2 p0 p1 p2 p3 p4 p5 p6 p7 p8 r (by unfold fO at h; exact h)), (fun p0 p1 p2 p3 p4 p5 p6 r h => Kz n _ _ _ _ _ _ _ ih.1 ih.2.1 ih.2.2.1 ih.2.2.2.1 ih.2.2.2.2.1 ih.2.2.2.2.2.1 ih.2.2.2.2.2.2 p0 p1 p2 p3 p4 p5 p6 r (by unfold fB at h; exact h)), (fun p0 p1 p2 p3 p4 p5 p6 r h => M8 n _ _ _ _ _ _ _ ih.1 ih.2.1 ih.2.2.1 ih.2.2.2.1 ih.2.2.2.2.1 ih.2.2.2.2.2.1 ih.2.2.2.2.2.2 p0 p1 p2 p3 p4 p5 p6 r (by unfold gN at h; exact h)), (fun p0 p1 p2 p3 p4 p5 p6 r h => JM n _ _ _ _ _ _ _ ih.1 ih.2.1 ih.2.2.1 ih.2.2.2.1 ih.2.2.2.2.1 ih.2.2.2.2.2.1 ih.2.2.2.2.2.2 p0 p1 p2 p3 p4 p5 p6 r (by unfold fq at h; exact h)), (fun p0 p1 p2 p3 p4 p5 p6 p7 r h => Nk n _ _ _ _ _ _ _ ih.1 ih.2.1 ih.2.2.1 ih.2.2.2.1 ih.2.2.2.2.1 ih.2.2.2.2.2.1 ih.2.2.2.2.2.2 p0 p1 p2 p3 p4 p5 p6 p7 r (by unfold bI at h; exact h)), (fun p0 p1 p2 p3 p4 p5 p6 p7 r h => La n _ _ _ _ _ _ _ ih.1 ih.2.1 ih.2.2.1 ih.2.2.2.1 ih.2.2.2.2.1 ih.2.2.2.2.2.1 ih.2.2.2.2.2.2 p0 p1 p2 p3 p4 p5 p6 p7 r (by unfold dQ at h; exact h))⟩
theorem VR (n : Nat) : qas (bI n) := (l5 n).2.2.2.2.2.1
end Abs
end Go.Proofs.YtiiaccpcoclklaaGreat
