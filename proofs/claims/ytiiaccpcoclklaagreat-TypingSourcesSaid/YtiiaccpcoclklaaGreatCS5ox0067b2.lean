/-
  Contracts of Go functions (printed). Conditions: none.
-/
import Derived.KernelRfl
import Derived.Test.YtiiaccpcoclklaaGreatCU5ox36b479
set_option linter.unusedSimpArgs false
set_option linter.unusedVariables false
namespace Go.Proofs.YtiiaccpcoclklaaGreat
namespace Abs
open Go Go.Proofs
set_option maxRecDepth 100000
set_option maxHeartbeats 40000000
theorem s5x0 {p q : Prop} (f : p → q) (h : p := by exact wk [some 0] (.c rfl (.u32 (.u16 (.u8 (.u4 (.u .nil)))))) (.b rfl (.c7 .nil) .nil) rfl) : q := f h
theorem cK (n : Nat) (p0 : Str) (p1 : Int) (p2 : Str) (p3 p4 : Int) (p5 p6 : Int) (r : Y6) (h : bq n p0 p1 p2 p3 p4 p5 p6 = some r) : aB Tryz.prog 158 [.ptr 0 0] [.box [.str p0, .i p1, .str p2, .i p3, .i p4, .i p5, .i p6]] (.aW []) [.box [.str p0, .i r.1, .str r.2.1, .i r.2.2.1, .i r.2.2.2.1, .i r.2.2.2.2.1, .i r.2.2.2.2.2]] := by
 unfold bq at h
 refine ah true Tryz.func158 rfl (nt Tryz.ntmps158 rfl) fun Q hQ t ht => ?_
 conv at ht => whnf
 subst ht
 refine .q fun K1 k1 => ?_
 obtain ⟨s1, hj1, h⟩ := ob h
 have hR1 : ∀ t9 h9, Le 1 t9 h9 (.ptr 0 0 :: (u32 (u16 (u8 (u4 (.unk :: [])))))) [.box [.str p0, .i p1, .str p2, .i p3, .i s1.1, .i s1.2.1, .i s1.2.2]] → K1 t9 h9 := by
  intro t9 h9 hw
  refine k1 _ _ (AW.le hw ?_)
  clear hw
  refine .q fun K2 k2 => ?_
  obtain ⟨s2, hj2, h⟩ := ob h
  have hR2 : ∀ t9 h9, Le 1 t9 h9 (.ptr 0 0 :: (u32 (u16 (u8 (u4 (.unk :: [])))))) [.box [.str p0, .i p1, .str p2, .i p3, .i s2, .i s1.2.1, .i s1.2.2]] → K2 t9 h9 := by
   intro t9 h9 hw
   refine k2 _ _ (AW.le hw ?_)
   clear hw
   refine rg 0 (⟨(IntKind.wrap .i64 (p3 + (p2.length : Int))), rfl, ?_⟩)
   obtain ⟨x1, hx1, h⟩ := ob h
   refine aj (U7 _ _ _ _ hx1) aM (.cons (.same _) (.cons (.same _) .nil)) (fun g => rfl) (fun g => by simp) (⟨rfl, ?_⟩)
   obtain rfl := sj h
   exact hQ _ _ _ (rI [0])
  refine .r1 fun K3 k3 => (⟨List.map encS ([([41] : Str), ([93] : Str), ([125] : Str)]), rfl, ?_⟩)
  obtain ⟨x2, hx2, hj2⟩ := ob hj2
  refine aj (rA _ _ _ _ hx2) aM (.cons (.same _) (.cons (.share _ _) .nil)) (fun g => by simp) (fun g => rfl) (k3 _ _ ?_)
  refine .ak rfl hj2 (fun hc1 hj2 => ?_) (fun hc1 hj2 => ?_)
  ·refine .Iw 0 4 (fun hv1 => ?_) ⟨0, 0, rfl⟩
   refine rg 0 (⟨(IntKind.wrap .i64 (s1.1 - 1)), rfl, ?_⟩)
   cases hj2
   exact s5x0 (hR2 _ _)
  refine .skip ?_
  cases hj2
  exact s5x0 (hR2 _ _)
 refine .r1 fun K4 k4 => (⟨List.map encS ([([40] : Str), ([91] : Str), ([123] : Str)]), rfl, ?_⟩)
 obtain ⟨x3, hx3, hj1⟩ := ob hj1
 refine aj (rA _ _ _ _ hx3) aM (.cons (.same _) (.cons (.share _ _) .nil)) (fun g => by simp) (fun g => rfl) (k4 _ _ ?_)
 refine .ak rfl hj1 (fun hc2 hj1 => ?_) (fun hc2 hj1 => ?_)
 ·refine .r fun K5 k5 => (⟨(IntKind.wrap .i64 (p4 + 1)), rfl, ?_⟩)
  refine k5 _ _ (.r fun K6 k6 => ?_)
  refine k6 _ _ (.ak rfl hj1 (fun hc3 hj1 => ?_) (fun hc3 hj1 => ?_))
  ·refine rg 0 ?_
   obtain ⟨x4, hx4, hj1⟩ := ob hj1
   refine cg [0] [] [.ptr 0 0, .i 4, .i p3] (JG _ _ _ _ _ _ _ _ _ _ _ hx4) (.aW []) [.box [.str p0, .i p1, .str p2, .i p3, .i (IntKind.wrap .i64 (p4 + 1)), .i x4.1, .i x4.2]] ?_
   cases hj1
   exact s5x0 (hR1 _ _)
  refine .skip ?_
  cases hj1
  exact s5x0 (hR1 _ _)
 refine .skip ?_
 cases hj1
 exact s5x0 (hR1 _ _)
theorem uL (n : Nat) (p0 : Str) (p1 : Int) (p2 : Str) (p3 p4 : Int) (p5 p6 : Int) (r : Int × Int) (h : qU n p0 p1 p2 p3 p4 p5 p6 = some r) : aB Tryz.prog 161 [.ptr 0 0] [.box [.str p0, .i p1, .str p2, .i p3, .i p4, .i p5, .i p6]] (.aW []) [.box [.str p0, .i p1, .str p2, .i p3, .i p4, .i r.1, .i r.2]] := by
 unfold qU at h
 refine ah true Tryz.func161 rfl (nt Tryz.ntmps161 rfl) fun Q hQ t ht => ?_
 conv at ht => whnf
 subst ht
 refine rg 0 ?_
 obtain ⟨x1, hx1, h⟩ := ob h
 refine cg [0] [] [.ptr 0 0, .i 2, .i p3] (JG _ _ _ _ _ _ _ _ _ _ _ hx1) (.aW []) [.box [.str p0, .i p1, .str p2, .i p3, .i p4, .i x1.1, .i x1.2]] ?_
 obtain rfl := sj h
 exact hQ _ _ _ (rI [0])
theorem ig (n : Nat) (p0 : Str) (p1 : Int) (p2 : Str) (p3 p4 : Int) (p5 p6 : Int) (p7 : Str) (r : Y6) (h : gB n p0 p1 p2 p3 p4 p5 p6 p7 = some r) : aB Tryz.prog 275 [.ptr 0 0, .str p7] [.box [.str p0, .i p1, .str p2, .i p3, .i p4, .i p5, .i p6]] (.aW []) [.box [.str p0, .i r.1, .str r.2.1, .i r.2.2.1, .i r.2.2.2.1, .i r.2.2.2.2.1, .i r.2.2.2.2.2]] := by
 unfold gB at h
 refine ah true Tryz.func275 rfl (nt Tryz.ntmps275 rfl) fun Q hQ t ht => ?_
 conv at ht => whnf
 subst ht
 refine .q fun K1 k1 => .r fun K2 k2 => (cg [0] [] [.ptr 0 0] (iJ 0 p0 p1 p2 p3 p4 p5 p6 _ rfl) (.bool (p6 == 0)) [.box [.str p0, .i p1, .str p2, .i p3, .i p4, .i p5, .i p6]] ?_)
 refine k2 _ _ (.ak rfl h (fun hc1 h => ?_) (fun hc1 h => ?_))
 ·refine .ret ?_
  obtain rfl := sj h
  exact hQ _ _ _ (rI [0])
 refine .skip (k1 _ _ ?_)
 refine .q fun K3 k3 => .r fun K4 k4 => ?_
 obtain ⟨x1, hx1, h⟩ := ob h
 refine cg [0] [] [.ptr 0 0, .str p7] (eO _ _ _ _ _ _ _ _ _ _ hx1) (.bool x1) [.box [.str p0, .i p1, .str p2, .i p3, .i p4, .i p5, .i p6]] (k4 _ _ ?_)
 refine .ak rfl h (fun hc2 h => ?_) (fun hc2 h => ?_)
 ·refine .r fun K5 k5 => ?_
  obtain ⟨x2, hx2, h⟩ := ob h
  refine cg [0] [] [.ptr 0 0] (uL _ _ _ _ _ _ _ _ _ hx2) (.aW []) [.box [.str p0, .i p1, .str p2, .i p3, .i p4, .i x2.1, .i x2.2]] (k5 _ _ ?_)
  refine .ret ?_
  obtain rfl := sj h
  exact hQ _ _ _ (rI [0])
 refine .skip (k3 _ _ ?_)
 refine rg 0 ?_
 obtain ⟨x3, hx3, h⟩ := ob h
 refine cg [0] [] [.ptr 0 0] (cK _ _ _ _ _ _ _ _ _ hx3) (.aW []) [.box [.str p0, .i x3.1, .str x3.2.1, .i x3.2.2.1, .i x3.2.2.2.1, .i x3.2.2.2.2.1, .i x3.2.2.2.2.2]] ?_
 obtain rfl := sj h
 exact hQ _ _ _ (rI [0])
abbrev qat (qdi : Str → Int → Str → Int → Int → Int → Int → Option (Ty × Int × Str × Int × Int × Int × Int)) : Prop := ∀ (p0 : Str) (p1 : Int) (p2 : Str) (p3 p4 : Int) (p5 p6 : Int) (r : Ty × Int × Str × Int × Int × Int × Int), qdi p0 p1 p2 p3 p4 p5 p6 = some r → aB Tryz.prog 289 [.ptr 0 0] [.box [.str p0, .i p1, .str p2, .i p3, .i p4, .i p5, .i p6]] (bn r.1) [.box [.str p0, .i r.2.1, .str r.2.2.1, .i r.2.2.2.1, .i r.2.2.2.2.1, .i r.2.2.2.2.2.1, .i r.2.2.2.2.2.2]]
theorem Pf (n : Nat) (qdi : Str → Int → Str → Int → Int → Int → Int → Option (Ty × Int × Str × Int × Int × Int × Int)) (qbr : qat qdi) (p0 : Str) (p1 : Int) (p2 : Str) (p3 p4 : Int) (p5 p6 : Int) (r : Ty × Int × Str × Int × Int × Int × Int) (h : uF n qdi p0 p1 p2 p3 p4 p5 p6 = some r) : aB Tryz.prog 289 [.ptr 0 0] [.box [.str p0, .i p1, .str p2, .i p3, .i p4, .i p5, .i p6]] (bn r.1) [.box [.str p0, .i r.2.1, .str r.2.2.1, .i r.2.2.2.1, .i r.2.2.2.2.1, .i r.2.2.2.2.2.1, .i r.2.2.2.2.2.2]] := by
 unfold uF at h
 refine ah true Tryz.func289 rfl (nt Tryz.ntmps289 rfl) fun Q hQ t ht => ?_
 conv at ht => whnf
 subst ht
 refine .r1 fun K1 k1 => (k1 _ _ ?_)
 refine .r1 fun K2 k2 => (k2 _ _ ?_)
 refine .q fun K3 k3 => (.block ?_)
 refine .r fun K4 k4 => (cg [0] [] [.ptr 0 0] (iJ 0 p0 p1 p2 p3 p4 p5 p6 _ rfl) (.bool (p6 == 0)) [.box [.str p0, .i p1, .str p2, .i p3, .i p4, .i p5, .i p6]] ?_)
 refine k4 _ _ (.ak rfl h (fun hc1 h => ?_) (fun hc1 h => ?_))
 ·refine .r fun K5 k5 => (k5 _ _ ?_)
  refine .ret ?_
  obtain rfl := sj h
  exact hQ _ _ _ (rI [0])
 refine .q fun K6 k6 => ?_
 obtain ⟨s1, hj1, h⟩ := ob h
 have hR1 : ∀ t9 h9, Le 1 t9 h9 (.ptr 0 0 :: (.unk :: (.ptr 1 0 :: (.ptr 2 0 :: (u8 (u4 (.bool s1 :: (u32 (u16 (u8 [])))))))))) [.box [.str p0, .i p1, .str p2, .i p3, .i p4, .i p5, .i p6], .box [.i 0, .str ([] : Str), .slice (List.map aI ([] : List Ty)) .nils], .box [.i p1, .str p2, .i p3]] → K6 t9 h9 := by
  intro t9 h9 hw
  refine k6 _ _ (AW.le hw ?_)
  clear hw
  refine .ak rfl h (fun hc2 h => ?_) (fun hc2 h => ?_)
  ·refine .r fun K7 k7 => ?_
   obtain ⟨x1, hx1, h⟩ := ob h
   refine cg [0] [] [.ptr 0 0] (cK _ _ _ _ _ _ _ _ _ hx1) (.aW []) [.box [.str p0, .i x1.1, .str x1.2.1, .i x1.2.2.1, .i x1.2.2.2.1, .i x1.2.2.2.2.1, .i x1.2.2.2.2.2]] (k7 _ _ ?_)
   refine .r fun K8 k8 => (k8 _ _ ?_)
   refine .ret ?_
   obtain rfl := sj h
   exact hQ _ _ _ (rI [0])
  refine .r fun K9 k9 => ?_
  obtain ⟨x2, hx2, h⟩ := ob h
  refine cg [0] [] [.ptr 0 0, .str ([105, 110, 116] : Str)] (eO _ _ _ _ _ _ _ _ _ _ hx2) (.bool x2) [.box [.str p0, .i p1, .str p2, .i p3, .i p4, .i p5, .i p6]] (k9 _ _ ?_)
  refine .ak rfl h (fun hc3 h => ?_) (fun hc3 h => ?_)
  ·refine .r fun K10 k10 => ?_
   obtain ⟨x3, hx3, h⟩ := ob h
   refine cg [0] [] [.ptr 0 0] (cK _ _ _ _ _ _ _ _ _ hx3) (.aW []) [.box [.str p0, .i x3.1, .str x3.2.1, .i x3.2.2.1, .i x3.2.2.2.1, .i x3.2.2.2.2.1, .i x3.2.2.2.2.2]] (k10 _ _ ?_)
   refine .r fun K11 k11 => (k11 _ _ ?_)
   refine .ret ?_
   obtain rfl := sj h
   exact hQ _ _ _ (rI [0])
  refine .r fun K12 k12 => ?_
  obtain ⟨x4, hx4, h⟩ := ob h
  refine cg [0] [] [.ptr 0 0, .str ([115, 101, 116] : Str)] (eO _ _ _ _ _ _ _ _ _ _ hx4) (.bool x4) [.box [.str p0, .i p1, .str p2, .i p3, .i p4, .i p5, .i p6]] (k12 _ _ ?_)
  refine .ak rfl h (fun hc4 h => ?_) (fun hc4 h => ?_)
  ·refine .r fun K13 k13 => ?_
   obtain ⟨x5, hx5, h⟩ := ob h
   refine cg [0] [] [.ptr 0 0] (cK _ _ _ _ _ _ _ _ _ hx5) (.aW []) [.box [.str p0, .i x5.1, .str x5.2.1, .i x5.2.2.1, .i x5.2.2.2.1, .i x5.2.2.2.2.1, .i x5.2.2.2.2.2]] (k13 _ _ ?_)
   refine .r fun K14 k14 => ?_
   obtain ⟨x6, hx6, h⟩ := ob h
   refine cg [0] [] [.ptr 0 0, .str ([40] : Str)] (ig _ _ _ _ _ _ _ _ _ _ hx6) (.aW []) [.box [.str p0, .i x6.1, .str x6.2.1, .i x6.2.2.1, .i x6.2.2.2.1, .i x6.2.2.2.2.1, .i x6.2.2.2.2.2]] (k14 _ _ ?_)
   refine .r1 fun K15 k15 => ?_
   obtain ⟨x7, hx7, h⟩ := ob h
   refine cg [0] [] [.ptr 0 0] (qbr _ _ _ _ _ _ _ _ hx7) (bn x7.1) [.box [.str p0, .i x7.2.1, .str x7.2.2.1, .i x7.2.2.2.1, .i x7.2.2.2.2.1, .i x7.2.2.2.2.2.1, .i x7.2.2.2.2.2.2]] (k15 _ _ ?_)
   refine .r fun K16 k16 => ?_
   obtain ⟨x8, hx8, h⟩ := ob h
   refine cg [0] [] [.ptr 0 0, .str ([41] : Str)] (ig _ _ _ _ _ _ _ _ _ _ hx8) (.aW []) [.box [.str p0, .i x8.1, .str x8.2.1, .i x8.2.2.1, .i x8.2.2.2.1, .i x8.2.2.2.2.1, .i x8.2.2.2.2.2]] (k16 _ _ ?_)
   refine .r1 fun K17 k17 => (⟨List.map aI ([x7.1]), by simp only [List.map_cons, List.map_nil, aR]; rfl, ?_⟩)
   refine k17 _ _ (.ret ?_)
   obtain rfl := sj h
   exact hQ _ _ _ (rI [0])
  refine .r fun K18 k18 => ?_
  obtain ⟨x9, hx9, h⟩ := ob h
  refine cg [0] [] [.ptr 0 0, .str ([112, 97, 105, 114] : Str)] (eO _ _ _ _ _ _ _ _ _ _ hx9) (.bool x9) [.box [.str p0, .i p1, .str p2, .i p3, .i p4, .i p5, .i p6]] (k18 _ _ ?_)
  refine .ak rfl h (fun hc5 h => ?_) (fun hc5 h => ?_)
  ·refine .r fun K19 k19 => ?_
   obtain ⟨x10, hx10, h⟩ := ob h
   refine cg [0] [] [.ptr 0 0] (cK _ _ _ _ _ _ _ _ _ hx10) (.aW []) [.box [.str p0, .i x10.1, .str x10.2.1, .i x10.2.2.1, .i x10.2.2.2.1, .i x10.2.2.2.2.1, .i x10.2.2.2.2.2]] (k19 _ _ ?_)
   refine .r fun K20 k20 => ?_
   obtain ⟨x11, hx11, h⟩ := ob h
   refine cg [0] [] [.ptr 0 0, .str ([40] : Str)] (ig _ _ _ _ _ _ _ _ _ _ hx11) (.aW []) [.box [.str p0, .i x11.1, .str x11.2.1, .i x11.2.2.1, .i x11.2.2.2.1, .i x11.2.2.2.2.1, .i x11.2.2.2.2.2]] (k20 _ _ ?_)
   refine .r1 fun K21 k21 => ?_
   obtain ⟨x12, hx12, h⟩ := ob h
   refine cg [0] [] [.ptr 0 0] (qbr _ _ _ _ _ _ _ _ hx12) (bn x12.1) [.box [.str p0, .i x12.2.1, .str x12.2.2.1, .i x12.2.2.2.1, .i x12.2.2.2.2.1, .i x12.2.2.2.2.2.1, .i x12.2.2.2.2.2.2]] (k21 _ _ ?_)
   refine .r fun K22 k22 => ?_
   obtain ⟨x13, hx13, h⟩ := ob h
   refine cg [0] [] [.ptr 0 0, .str ([44] : Str)] (ig _ _ _ _ _ _ _ _ _ _ hx13) (.aW []) [.box [.str p0, .i x13.1, .str x13.2.1, .i x13.2.2.1, .i x13.2.2.2.1, .i x13.2.2.2.2.1, .i x13.2.2.2.2.2]] (k22 _ _ ?_)
   refine .r1 fun K23 k23 => ?_
   obtain ⟨x14, hx14, h⟩ := ob h
   refine cg [0] [] [.ptr 0 0] (qbr _ _ _ _ _ _ _ _ hx14) (bn x14.1) [.box [.str p0, .i x14.2.1, .str x14.2.2.1, .i x14.2.2.2.1, .i x14.2.2.2.2.1, .i x14.2.2.2.2.2.1, .i x14.2.2.2.2.2.2]] (k23 _ _ ?_)
   refine .r fun K24 k24 => ?_
   obtain ⟨x15, hx15, h⟩ := ob h
   refine cg [0] [] [.ptr 0 0, .str ([41] : Str)] (ig _ _ _ _ _ _ _ _ _ _ hx15) (.aW []) [.box [.str p0, .i x15.1, .str x15.2.1, .i x15.2.2.1, .i x15.2.2.2.1, .i x15.2.2.2.2.1, .i x15.2.2.2.2.2]] (k24 _ _ ?_)
   refine .r1 fun K25 k25 => (⟨List.map aI ([x12.1, x14.1]), by simp only [List.map_cons, List.map_nil, aR]; rfl, ?_⟩)
   refine k25 _ _ (.ret ?_)
   obtain rfl := sj h
   exact hQ _ _ _ (rI [0])
  refine .skip (k3 _ _ ?_)
  refine .r fun K26 k26 => ?_
  obtain ⟨x16, hx16, h⟩ := ob h
  refine cg [0] [] [.ptr 0 0] (uL _ _ _ _ _ _ _ _ _ hx16) (.aW []) [.box [.str p0, .i p1, .str p2, .i p3, .i p4, .i x16.1, .i x16.2]] (k26 _ _ ?_)
  refine .r fun K27 k27 => (k27 _ _ ?_)
  refine .ret ?_
  obtain rfl := sj h
  exact hQ _ _ _ (rI [0])
 refine rg 0 (aD hj1 (fun hc6 hj1 => ?_) (fun hc6 hj1 => ?_))
 ·obtain ⟨x17, hx17, hj1⟩ := ob hj1
  refine aj (CZ _ _ _ hx17) aM (.cons (.same _) .nil) (fun g => rfl) (fun g => rfl) ?_
  cases hj1
  exact hR1 _ _ (li (.s (.u (.s (.s (.u8 (.u4 (.s (.u16 (.u16 (.u16 (.u8 .n))))))))))))
 cases hj1
 exact hR1 _ _ (li (.s (.u (.s (.s (.u8 (.u4 (.s (.u16 (.u16 (.u16 (.u8 .n))))))))))))
theorem WC (n : Nat) : qat (sG n) := by
 induction n with
 | zero => exact (fun p0 p1 p2 p3 p4 p5 p6 r h => by unfold sG at h; cases h)
 | succ n ih =>
  exact (fun p0 p1 p2 p3 p4 p5 p6 r h => Pf n _ ih p0 p1 p2 p3 p4 p5 p6 r (by unfold sG at h; exact h))
theorem Zg (n : Nat) : qat (sG n) := (WC n)
theorem Pq (n : Nat) (p0 : Str) (p1 : Int) (p2 : Str) (p3 p4 : Int) (p5 p6 : Int) (r : Bool) (h : nZ n p0 p1 p2 p3 p4 p5 p6 = some r) : aB Tryz.prog 290 [.ptr 0 0] [.box [.str p0, .i p1, .str p2, .i p3, .i p4, .i p5, .i p6]] (.bool r) [.box [.str p0, .i p1, .str p2, .i p3, .i p4, .i p5, .i p6]] := by
 unfold nZ at h
 refine ah true Tryz.func290 rfl (nt Tryz.ntmps290 rfl) fun Q hQ t ht => ?_
 conv at ht => whnf
 subst ht
 refine .r fun K1 k1 => (k1 _ _ ?_)
 refine .r1 fun K2 k2 => (⟨(IntKind.wrap .i64 (p3 + (p2.length : Int))), rfl, ?_⟩)
 obtain ⟨x1, hx1, h⟩ := ob h
 refine aj (U7 _ _ _ _ hx1) aM (.cons (.same _) (.cons (.same _) .nil)) (fun g => rfl) (fun g => by simp) (⟨rfl, ?_⟩)
 refine k2 _ _ (.q fun K3 k3 => ?_)
 obtain ⟨s1, hj1, h⟩ := ob h
 have hR1 : ∀ t9 h9, Le 1 t9 h9 (u2 (.bool s1 :: (u16 (u8 (u2 []))))) [.box [.str p0, .i p1, .str p2, .i p3, .i p4, .i p5, .i p6]] → K3 t9 h9 := by
  intro t9 h9 hw
  refine k3 _ _ (AW.le hw ?_)
  clear hw
  refine .ret ?_
  obtain rfl := sj h
  exact hQ _ _ _ (rI [0])
 refine rg 0 (aD hj1 (fun hc1 hj1 => ?_) (fun hc1 hj1 => ?_))
 ·cases hj1
  exact hR1 _ _ (wk [some 0] (.u2 (.c rfl (.u16 (.u8 (.u2 .nil))))) (.b rfl (.c7 .nil) .nil) rfl)
 cases hj1
 exact hR1 _ _ (wk [some 0] (.u2 (.c rfl (.u16 (.u8 (.u2 .nil))))) (.b rfl (.c7 .nil) .nil) rfl)
theorem afl (n : Nat) (p0 : Str) (r : Int) (h : Iu n p0 = some r) : aB Tryz.prog 292 [.str p0] [] (.i r) [] := by
 unfold Iu at h
 refine ah true Tryz.func292 rfl (nt Tryz.ntmps292 rfl) fun Q hQ t ht => ?_
 conv at ht => whnf
 subst ht
 refine .r fun K1 k1 => (k1 _ _ ?_)
 refine .q fun K2 k2 => .r fun K3 k3 => (k3 _ _ ?_)
 refine .block (.r fun K4 k4 => ?_)
 refine k4 _ _ (.ak rfl h (fun hc1 h => ?_) (fun hc1 h => ?_))
 ·refine .r fun K5 k5 => (k5 _ _ ?_)
  refine .ret ?_
  obtain rfl := sj h
  exact hQ _ _ _ rp
 refine .r fun K6 k6 => (k6 _ _ ?_)
 refine .ak rfl h (fun hc2 h => ?_) (fun hc2 h => ?_)
 ·refine .r fun K7 k7 => (k7 _ _ ?_)
  refine .ret ?_
  obtain rfl := sj h
  exact hQ _ _ _ rp
 refine .r fun K8 k8 => (k8 _ _ ?_)
 refine .ak rfl h (fun hc3 h => ?_) (fun hc3 h => ?_)
 ·refine .r fun K9 k9 => (k9 _ _ ?_)
  refine .ret ?_
  obtain rfl := sj h
  exact hQ _ _ _ rp
 refine .r fun K10 k10 => (k10 _ _ ?_)
 refine .ak rfl h (fun hc4 h => ?_) (fun hc4 h => ?_)
 ·refine .r fun K11 k11 => (k11 _ _ ?_)
  refine .ret ?_
  obtain rfl := sj h
  exact hQ _ _ _ rp
 refine .r fun K12 k12 => (k12 _ _ ?_)
 refine .ak rfl h (fun hc5 h => ?_) (fun hc5 h => ?_)
 ·refine .r fun K13 k13 => (k13 _ _ ?_)
  refine .ret ?_
  obtain rfl := sj h
  exact hQ _ _ _ rp
 refine .r fun K14 k14 => (k14 _ _ ?_)
 refine .ak rfl h (fun hc6 h => ?_) (fun hc6 h => ?_)
 ·refine .r fun K15 k15 => (k15 _ _ ?_)
  refine .ret ?_
  obtain rfl := sj h
  exact hQ _ _ _ rp
 refine .r fun K16 k16 => (k16 _ _ ?_)
 refine .ak rfl h (fun hc7 h => ?_) (fun hc7 h => ?_)
 ·refine .r fun K17 k17 => (k17 _ _ ?_)
  refine .ret ?_
  obtain rfl := sj h
  exact hQ _ _ _ rp
 refine .r fun K18 k18 => (k18 _ _ ?_)
 refine .ak rfl h (fun hc8 h => ?_) (fun hc8 h => ?_)
 ·refine .r fun K19 k19 => (k19 _ _ ?_)
  refine .ret ?_
  obtain rfl := sj h
  exact hQ _ _ _ rp
 refine .r fun K20 k20 => (k20 _ _ ?_)
 refine .ak rfl h (fun hc9 h => ?_) (fun hc9 h => ?_)
 ·refine .r fun K21 k21 => (k21 _ _ ?_)
  refine .ret ?_
  obtain rfl := sj h
  exact hQ _ _ _ rp
 refine .skip (k2 _ _ ?_)
 refine .r fun K22 k22 => (k22 _ _ ?_)
 refine .ret ?_
 obtain rfl := sj h
 exact hQ _ _ _ rp
theorem acA (n : Nat) (p0 : Str) (r : Int) (h : Gq n p0 = some r) : aB Tryz.prog 293 [.str p0] [] (.i r) [] := by
 unfold Gq at h
 refine ah true Tryz.func293 rfl (nt Tryz.ntmps293 rfl) fun Q hQ t ht => ?_
 conv at ht => whnf
 subst ht
 refine .r fun K1 k1 => (k1 _ _ ?_)
 refine .q fun K2 k2 => .r fun K3 k3 => (k3 _ _ ?_)
 refine .block (.r fun K4 k4 => ?_)
 refine k4 _ _ (.ak rfl h (fun hc1 h => ?_) (fun hc1 h => ?_))
 ·refine .r fun K5 k5 => (k5 _ _ ?_)
  refine .ret ?_
  obtain rfl := sj h
  exact hQ _ _ _ rp
 refine .r fun K6 k6 => (k6 _ _ ?_)
 refine .ak rfl h (fun hc2 h => ?_) (fun hc2 h => ?_)
 ·refine .r fun K7 k7 => (k7 _ _ ?_)
  refine .ret ?_
  obtain rfl := sj h
  exact hQ _ _ _ rp
 refine .r fun K8 k8 => (k8 _ _ ?_)
 refine .ak rfl h (fun hc3 h => ?_) (fun hc3 h => ?_)
 ·refine .r fun K9 k9 => (k9 _ _ ?_)
  refine .ret ?_
  obtain rfl := sj h
  exact hQ _ _ _ rp
 refine .r fun K10 k10 => (k10 _ _ ?_)
 refine .ak rfl h (fun hc4 h => ?_) (fun hc4 h => ?_)
 ·refine .r fun K11 k11 => (k11 _ _ ?_)
  refine .ret ?_
  obtain rfl := sj h
  exact hQ _ _ _ rp
 refine .r fun K12 k12 => (k12 _ _ ?_)
 refine .ak rfl h (fun hc5 h => ?_) (fun hc5 h => ?_)
 ·refine .r fun K13 k13 => (k13 _ _ ?_)
  refine .ret ?_
  obtain rfl := sj h
  exact hQ _ _ _ rp
 refine .skip (k2 _ _ ?_)
 refine .r fun K14 k14 => (k14 _ _ ?_)
 refine .ret ?_
 obtain rfl := sj h
 exact hQ _ _ _ rp
theorem aml (n : Nat) (p0 : Str) (r : Int) (h : Vj n p0 = some r) : aB Tryz.prog 294 [.str p0] [] (.i r) [] := by
 unfold Vj at h
 refine ah true Tryz.func294 rfl (nt Tryz.ntmps294 rfl) fun Q hQ t ht => ?_
 conv at ht => whnf
 subst ht
 refine .r fun K1 k1 => (k1 _ _ ?_)
 refine .q fun K2 k2 => .r fun K3 k3 => (k3 _ _ ?_)
 refine .block (.r fun K4 k4 => ?_)
 refine k4 _ _ (.ak rfl h (fun hc1 h => ?_) (fun hc1 h => ?_))
 ·refine .r fun K5 k5 => (k5 _ _ ?_)
  refine .ret ?_
  obtain rfl := sj h
  exact hQ _ _ _ rp
 refine .r fun K6 k6 => (k6 _ _ ?_)
 refine .ak rfl h (fun hc2 h => ?_) (fun hc2 h => ?_)
 ·refine .r fun K7 k7 => (k7 _ _ ?_)
  refine .ret ?_
  obtain rfl := sj h
  exact hQ _ _ _ rp
 refine .r fun K8 k8 => (k8 _ _ ?_)
 refine .ak rfl h (fun hc3 h => ?_) (fun hc3 h => ?_)
 ·refine .r fun K9 k9 => (k9 _ _ ?_)
  refine .ret ?_
  obtain rfl := sj h
  exact hQ _ _ _ rp
 refine .r fun K10 k10 => (k10 _ _ ?_)
 refine .ak rfl h (fun hc4 h => ?_) (fun hc4 h => ?_)
 ·refine .r fun K11 k11 => (k11 _ _ ?_)
  refine .ret ?_
  obtain rfl := sj h
  exact hQ _ _ _ rp
 refine .r fun K12 k12 => (k12 _ _ ?_)
 refine .ak rfl h (fun hc5 h => ?_) (fun hc5 h => ?_)
 ·refine .r fun K13 k13 => (k13 _ _ ?_)
  refine .ret ?_
  obtain rfl := sj h
  exact hQ _ _ _ rp
 refine .r fun K14 k14 => (k14 _ _ ?_)
 refine .ak rfl h (fun hc6 h => ?_) (fun hc6 h => ?_)
 ·refine .r fun K15 k15 => (k15 _ _ ?_)
  refine .ret ?_
  obtain rfl := sj h
  exact hQ _ _ _ rp
 refine .r fun K16 k16 => (k16 _ _ ?_)
 refine .ak rfl h (fun hc7 h => ?_) (fun hc7 h => ?_)
 ·refine .r fun K17 k17 => (k17 _ _ ?_)
  refine .ret ?_
  obtain rfl := sj h
  exact hQ _ _ _ rp
 refine .r fun K18 k18 => (k18 _ _ ?_)
 refine .ak rfl h (fun hc8 h => ?_) (fun hc8 h => ?_)
 ·refine .r fun K19 k19 => (k19 _ _ ?_)
  refine .ret ?_
  obtain rfl := sj h
  exact hQ _ _ _ rp
 refine .r fun K20 k20 => (k20 _ _ ?_)
 refine .ak rfl h (fun hc9 h => ?_) (fun hc9 h => ?_)
 ·refine .r fun K21 k21 => (k21 _ _ ?_)
  refine .ret ?_
  obtain rfl := sj h
  exact hQ _ _ _ rp
 refine .r fun K22 k22 => (k22 _ _ ?_)
 refine .ak rfl h (fun hc10 h => ?_) (fun hc10 h => ?_)
 ·refine .r fun K23 k23 => (k23 _ _ ?_)
  refine .ret ?_
  obtain rfl := sj h
  exact hQ _ _ _ rp
 refine .skip (k2 _ _ ?_)
 refine .r fun K24 k24 => (k24 _ _ ?_)
 refine .ret ?_
 obtain rfl := sj h
 exact hQ _ _ _ rp
theorem aif (n : Nat) (p0 : Str) (r : Int × Int) (h : xW n p0 = some r) : aB Tryz.prog 276 [.str p0] [] (.aW [.i r.1, .i r.2]) [] := by
 unfold xW at h
 refine ah true Tryz.func276 rfl (nt Tryz.ntmps276 rfl) fun Q hQ t ht => ?_
 conv at ht => whnf
 subst ht
 refine .r fun K1 k1 => (k1 _ _ ?_)
 refine .q fun K2 k2 => .r fun K3 k3 => (k3 _ _ ?_)
 refine .block (.r fun K4 k4 => ?_)
 refine k4 _ _ (.ak rfl h (fun hc1 h => ?_) (fun hc1 h => ?_))
 ·refine .r fun K5 k5 => (k5 _ _ ?_)
  refine .ret ?_
  obtain rfl := sj h
  exact hQ _ _ _ rp
 refine .r fun K6 k6 => (k6 _ _ ?_)
 refine .ak rfl h (fun hc2 h => ?_) (fun hc2 h => ?_)
 ·refine .r fun K7 k7 => (k7 _ _ ?_)
  refine .ret ?_
  obtain rfl := sj h
  exact hQ _ _ _ rp
 refine .r fun K8 k8 => (k8 _ _ ?_)
 refine .ak rfl h (fun hc3 h => ?_) (fun hc3 h => ?_)
 ·refine .r fun K9 k9 => (k9 _ _ ?_)
  refine .ret ?_
  obtain rfl := sj h
  exact hQ _ _ _ rp
 refine .r fun K10 k10 => (k10 _ _ ?_)
 refine .ak rfl h (fun hc4 h => ?_) (fun hc4 h => ?_)
 ·refine .r fun K11 k11 => (k11 _ _ ?_)
  refine .ret ?_
  obtain rfl := sj h
  exact hQ _ _ _ rp
 refine .r fun K12 k12 => (k12 _ _ ?_)
 refine .ak rfl h (fun hc5 h => ?_) (fun hc5 h => ?_)
 ·refine .r fun K13 k13 => (k13 _ _ ?_)
  refine .ret ?_
  obtain rfl := sj h
  exact hQ _ _ _ rp
 refine .r fun K14 k14 => (k14 _ _ ?_)
 refine .ak rfl h (fun hc6 h => ?_) (fun hc6 h => ?_)
 ·refine .r fun K15 k15 => (k15 _ _ ?_)
  refine .ret ?_
  obtain rfl := sj h
  exact hQ _ _ _ rp
 refine .r fun K16 k16 => (k16 _ _ ?_)
 refine .ak rfl h (fun hc7 h => ?_) (fun hc7 h => ?_)
 ·refine .r fun K17 k17 => (k17 _ _ ?_)
  refine .ret ?_
  obtain rfl := sj h
  exact hQ _ _ _ rp
 refine .r fun K18 k18 => (k18 _ _ ?_)
 refine .ak rfl h (fun hc8 h => ?_) (fun hc8 h => ?_)
 ·refine .r fun K19 k19 => (k19 _ _ ?_)
  refine .ret ?_
  obtain rfl := sj h
  exact hQ _ _ _ rp
 refine .r fun K20 k20 => (k20 _ _ ?_)
 refine .ak rfl h (fun hc9 h => ?_) (fun hc9 h => ?_)
 ·refine .r fun K21 k21 => (k21 _ _ ?_)
  refine .ret ?_
  obtain rfl := sj h
  exact hQ _ _ _ rp
 refine .r fun K22 k22 => (k22 _ _ ?_)
 refine .ak rfl h (fun hc10 h => ?_) (fun hc10 h => ?_)
 ·refine .r fun K23 k23 => (k23 _ _ ?_)
  refine .ret ?_
  obtain rfl := sj h
  exact hQ _ _ _ rp
 refine .r fun K24 k24 => (k24 _ _ ?_)
 refine .ak rfl h (fun hc11 h => ?_) (fun hc11 h => ?_)
 ·refine .r fun K25 k25 => (k25 _ _ ?_)
  refine .ret ?_
  obtain rfl := sj h
  exact hQ _ _ _ rp
 refine .skip (k2 _ _ ?_)
 refine .q fun K26 k26 => .r fun K27 k27 => ?_
 obtain ⟨x1, hx1, h⟩ := ob h
 refine aj (afl _ _ _ hx1) aM (.cons (.same _) .nil) (fun g => rfl) (fun g => rfl) (k27 _ _ ?_)
 refine .r fun K28 k28 => (k28 _ _ ?_)
 refine .ak rfl h (fun hc12 h => ?_) (fun hc12 h => ?_)
 ·refine .r fun K29 k29 => (k29 _ _ ?_)
  refine .ret ?_
  obtain rfl := sj h
  exact hQ _ _ _ rp
 refine .skip (k26 _ _ ?_)
 refine .q fun K30 k30 => .r fun K31 k31 => ?_
 obtain ⟨x2, hx2, h⟩ := ob h
 refine aj (acA _ _ _ hx2) aM (.cons (.same _) .nil) (fun g => rfl) (fun g => rfl) (k31 _ _ ?_)
 refine .r fun K32 k32 => (k32 _ _ ?_)
 refine .ak rfl h (fun hc13 h => ?_) (fun hc13 h => ?_)
 ·refine .r fun K33 k33 => (k33 _ _ ?_)
  refine .ret ?_
  obtain rfl := sj h
  exact hQ _ _ _ rp
 refine .skip (k30 _ _ ?_)
 refine .q fun K34 k34 => .r fun K35 k35 => ?_
 obtain ⟨x3, hx3, h⟩ := ob h
 refine aj (aml _ _ _ hx3) aM (.cons (.same _) .nil) (fun g => rfl) (fun g => rfl) (k35 _ _ ?_)
 refine .r fun K36 k36 => (k36 _ _ ?_)
 refine .ak rfl h (fun hc14 h => ?_) (fun hc14 h => ?_)
 ·refine .r fun K37 k37 => (k37 _ _ ?_)
  refine .ret ?_
  obtain rfl := sj h
  exact hQ _ _ _ rp
 refine .skip (k34 _ _ ?_)
 refine .r fun K38 k38 => (k38 _ _ ?_)
 refine .ret ?_
 obtain rfl := sj h
 exact hQ _ _ _ rp
theorem OT (n : Nat) (p0 : Str) (p1 : Int) (p2 : Str) (p3 p4 : Int) (p5 p6 : Int) (p7 r : Int) (h : nP n p0 p1 p2 p3 p4 p5 p6 p7 = some r) : aB Tryz.prog 241 [.ptr 0 0, .i p7] [.box [.str p0, .i p1, .str p2, .i p3, .i p4, .i p5, .i p6]] (.i r) [.box [.str p0, .i p1, .str p2, .i p3, .i p4, .i p5, .i p6]] := by
 unfold nP at h
 refine ah true Tryz.func241 rfl (nt Tryz.ntmps241 rfl) fun Q hQ t ht => ?_
 conv at ht => whnf
 subst ht
 refine .r fun K1 k1 => (k1 _ _ ?_)
 refine .q fun K2 k2 => .q fun K3 k3 => ?_
 obtain ⟨s1, hj1, h⟩ := ob h
 have hR1 : ∀ t9 h9, Le 1 t9 h9 (.ptr 0 0 :: (.i p7 :: (u16 (u2 (.bool s1 :: (u8 (u4 (.unk :: [])))))))) [.box [.str p0, .i p1, .str p2, .i p3, .i p4, .i p5, .i p6]] → K3 t9 h9 := by
  intro t9 h9 hw
  refine k3 _ _ (AW.le hw ?_)
  clear hw
  refine .ak rfl h (fun hc1 h => ?_) (fun hc1 h => ?_)
  ·refine .r fun K4 k4 => (k4 _ _ ?_)
   refine .ret ?_
   obtain rfl := sj h
   exact hQ _ _ _ (rI [0])
  refine .skip (k2 _ _ ?_)
  refine .r fun K5 k5 => ?_
  obtain ⟨x1, hx1, h⟩ := ob h
  refine aj (aif _ _ _ hx1) aM (.cons (.same _) .nil) (fun g => rfl) (fun g => by simp) (k5 _ _ ?_)
  refine .q fun K6 k6 => .r fun K7 k7 => (k7 _ _ ?_)
  refine .ak rfl h (fun hc2 h => ?_) (fun hc2 h => ?_)
  ·refine .r fun K8 k8 => (k8 _ _ ?_)
   refine .ret ?_
   obtain rfl := sj h
   exact hQ _ _ _ (rI [0])
  refine .skip (k6 _ _ ?_)
  refine .r fun K9 k9 => (k9 _ _ ?_)
  refine .ret ?_
  obtain rfl := sj h
  exact hQ _ _ _ (rI [0])
 refine rg 0 (aD hj1 (fun hc3 hj1 => ?_) (fun hc3 hj1 => ?_))
 ·cases hj1
  exact hR1 _ _ (li (.s (.s (.u16 (.u2 (.s (.u8 (.u4 (.u .n)))))))))
 cases hj1
 exact hR1 _ _ (li (.s (.s (.u16 (.u2 (.s (.u8 (.u4 (.u .n)))))))))
theorem VE (n : Nat) (p0 : Str) (p1 : Int) (p2 : Str) (p3 p4 : Int) (p5 p6 : Int) (r : Str × Int × Str × Int × Int × Int × Int) (h : zX n p0 p1 p2 p3 p4 p5 p6 = some r) : aB Tryz.prog 291 [.ptr 0 0] [.box [.str p0, .i p1, .str p2, .i p3, .i p4, .i p5, .i p6]] (.str r.1) [.box [.str p0, .i r.2.1, .str r.2.2.1, .i r.2.2.2.1, .i r.2.2.2.2.1, .i r.2.2.2.2.2.1, .i r.2.2.2.2.2.2]] := by
 unfold zX at h
 refine ah true Tryz.func291 rfl (nt Tryz.ntmps291 rfl) fun Q hQ t ht => ?_
 conv at ht => whnf
 subst ht
 refine .r fun K1 k1 => (k1 _ _ ?_)
 refine .r fun K2 k2 => (k2 _ _ ?_)
 refine .q fun K3 k3 => .r fun K4 k4 => (cg [0] [] [.ptr 0 0] (iJ 0 p0 p1 p2 p3 p4 p5 p6 _ rfl) (.bool (p6 == 0)) [.box [.str p0, .i p1, .str p2, .i p3, .i p4, .i p5, .i p6]] ?_)
 refine k4 _ _ (.ak rfl h (fun hc1 h => ?_) (fun hc1 h => ?_))
 ·refine .r fun K5 k5 => (k5 _ _ ?_)
  refine .ret ?_
  obtain rfl := sj h
  exact hQ _ _ _ (rI [0])
 refine .skip (k3 _ _ ?_)
 refine .q fun K6 k6 => .q fun K7 k7 => ?_
 obtain ⟨s1, hj1, h⟩ := ob h
 have hR1 : ∀ t9 h9, Le 1 t9 h9 (.ptr 0 0 :: (u2 (.str p2 :: (u16 (.unk :: (.bool s1 :: (u4 (.unk :: [])))))))) [.box [.str p0, .i p1, .str p2, .i p3, .i p4, .i p5, .i p6]] → K7 t9 h9 := by
  intro t9 h9 hw
  refine k7 _ _ (AW.le hw ?_)
  clear hw
  refine .ak rfl h (fun hc2 h => ?_) (fun hc2 h => ?_)
  ·refine .r fun K8 k8 => ?_
   obtain ⟨x1, hx1, h⟩ := ob h
   refine cg [0] [] [.ptr 0 0] (uL _ _ _ _ _ _ _ _ _ hx1) (.aW []) [.box [.str p0, .i p1, .str p2, .i p3, .i p4, .i x1.1, .i x1.2]] (k8 _ _ ?_)
   refine .r fun K9 k9 => (k9 _ _ ?_)
   refine .ret ?_
   obtain rfl := sj h
   exact hQ _ _ _ (rI [0])
  refine .skip (k6 _ _ ?_)
  refine .r fun K10 k10 => ?_
  obtain ⟨x2, hx2, h⟩ := ob h
  refine cg [0] [] [.ptr 0 0] (cK _ _ _ _ _ _ _ _ _ hx2) (.aW []) [.box [.str p0, .i x2.1, .str x2.2.1, .i x2.2.2.1, .i x2.2.2.2.1, .i x2.2.2.2.2.1, .i x2.2.2.2.2.2]] (k10 _ _ ?_)
  refine .r fun K11 k11 => (k11 _ _ ?_)
  refine .ret ?_
  obtain rfl := sj h
  exact hQ _ _ _ (rI [0])
 refine rg 0 (aD hj1 (fun hc3 hj1 => ?_) (fun hc3 hj1 => ?_))
 ·cases hj1
  exact hR1 _ _ (li (.s (.u2 (.s (.u16 (.u (.s (.u4 (.u .n)))))))))
 obtain ⟨x3, hx3, hj1⟩ := ob hj1
 refine aj (CZ _ _ _ hx3) aM (.cons (.same _) .nil) (fun g => rfl) (fun g => rfl) ?_
 cases hj1
 exact hR1 _ _ (li (.s (.u2 (.s (.u16 (.u (.s (.u4 (.u .n)))))))))
theorem Ux (n : Nat) (p0 : Str) (r : Int) (h : FX n p0 = some r) : aB Tryz.prog 274 [.str p0] [] (.i r) [] := by
 unfold FX at h
 refine ah true Tryz.func274 rfl (nt Tryz.ntmps274 rfl) fun Q hQ t ht => ?_
 conv at ht => whnf
 subst ht
 refine .r fun K1 k1 => (k1 _ _ ?_)
 refine .r1 fun K2 k2 => (⟨List.map encS ([([80, 79, 87] : Str), ([99, 97, 114, 100] : Str), ([109, 105, 110] : Str), ([109, 97, 120] : Str), ([100, 111, 109] : Str), ([114, 97, 110] : Str)]), by kernel_rfl, ?_⟩)
 refine k2 _ _ (.q fun K3 k3 => .r fun K4 k4 => ?_)
 refine k4 _ _ (.block ?_)
 obtain ⟨o1, ho1, h⟩ := ob h
 have hR1 : ∀ s2 : Unit, o1 = .nx s2 → ∀ t9 h9, Le 0 t9 h9 (u16 (u4 [])) [] → K3 t9 h9 := by
  intro s2 ho
  subst ho
  dsimp only [LR.el] at h
  intro t9 h9 hw
  refine k3 _ _ (AW.le hw ?_)
  refine .r fun K5 k5 => (k5 _ _ ?_)
  refine .ret ?_
  obtain rfl := sj h
  exact hQ _ _ _ rp
 refine .loopS (GK n p0) (fun (s1 : Int) => (.str p0 :: (u2 (.slice (List.map encS ([([80, 79, 87] : Str), ([99, 97, 114, 100] : Str), ([109, 105, 110] : Str), ([109, 97, 120] : Str), ([100, 111, 109] : Str), ([114, 97, 110] : Str)])) (.tip 0 1) :: (.i s1 :: (u8 (u4 (u2 (.unk :: []))))))))) (fun (s1 : Int) => [.tip (List.length ([([80, 79, 87] : Str), ([99, 97, 114, 100] : Str), ([109, 105, 110] : Str), ([109, 97, 120] : Str), ([100, 111, 109] : Str), ([114, 97, 110] : Str)]) * 1)]) ho1 (fun _ => rfl) (li (.s (.u2 (.s (.s (.u8 (.u4 (.u2 (.u .n))))))))) ?_
 intro n1 s1 hs1 KL1 hKL1
 unfold GK at hs1
 refine .q fun K6 k6 => .r fun K7 k7 => (aV (l := [([80, 79, 87] : Str), ([99, 97, 114, 100] : Str), ([109, 105, 110] : Str), ([109, 97, 120] : Str), ([100, 111, 109] : Str), ([114, 97, 110] : Str)]) (f := encS) ?_)
 refine k7 _ _ (.ak rfl hs1 (fun hc1 hs1 => ?_) (fun hc1 hs1 => ?_))
 ·refine .skip (k6 _ _ ?_)
  refine .q fun K8 k8 => (.block ?_)
  refine .r fun K9 k9 => ?_
  obtain ⟨x1, hx1, hs1⟩ := ob hs1
  refine aG (l := [([80, 79, 87] : Str), ([99, 97, 114, 100] : Str), ([109, 105, 110] : Str), ([109, 97, 120] : Str), ([100, 111, 109] : Str), ([114, 97, 110] : Str)]) (f := encS) (cs := [.str (x1)]) hx1 (rfl) rfl (k9 _ _ ?_)
  refine .ak rfl hs1 (fun hc2 hs1 => ?_) (fun hc2 hs1 => ?_)
  ·refine .r fun K10 k10 => (⟨(IntKind.wrap .i64 (46 + s1)), rfl, ?_⟩)
   refine k10 _ _ (.ret ?_)
   obtain rfl := sj hs1
   dsimp only [LR.el] at h
   obtain rfl := sj h
   exact hQ _ _ _ rp
  refine .skip (k8 _ _ ?_)
  refine .know 4 0 fun hv1 => (.know 3 0 fun hv2 => ?_)
  refine rg 0 (⟨(s1 + 1), by have := dz hv1; have := fG hv2; have h8 := of_decide_eq_true hc1; exact bC (by omega) (by omega), ?_⟩)
  exact hKL1 _ _ _ hs1 (li (.s (.u2 (.s (.s (.u8 (.u4 (.u2 (.u .n)))))))))
 refine .exit ?_
 exact hR1 _ (sj hs1).symm _ _ (wk [] (.u16 (.u4 .nil)) .nil rfl)
end Abs
end Go.Proofs.YtiiaccpcoclklaaGreat
