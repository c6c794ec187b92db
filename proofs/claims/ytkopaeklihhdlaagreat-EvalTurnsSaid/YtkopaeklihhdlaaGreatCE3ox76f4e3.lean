/-
  Contracts of Go functions (printed). Conditions: none.
-/
import Derived.KernelRfl
import Derived.Test.YtkopaeklihhdlaaGreatCDrnox069603
import Derived.Test.YtkopaeklihhdlaaGreatCE1ox1031df
set_option linter.unusedSimpArgs false
set_option linter.unusedVariables false
namespace Go.Proofs.YtkopaeklihhdlaaGreat
namespace Abs
open Go Go.Proofs
set_option maxRecDepth 100000
set_option maxHeartbeats 40000000
theorem vk (n : Nat) (p0 : Ty) (r : Bool) (h : gy n p0 = some r) : aA Tryz.prog 93 [.agg [.int .i64 p0.kind, .str p0.name, .slice (List.map aH p0.kids) .shared]] [] (.bool r) [] := by
 unfold gy at h
 refine aC true Tryz.func93 rfl (by rw [Tryz.ntmps93]; exact Nat.le_of_ble_eq_true rfl) fun Q hQ t ht => ?_
 conv at ht => whnf
 subst ht
 refine .q fun K1 k1 => ?_
 refine rg 1 ?_
 conv => whnf
 refine k1 _ _ ?_
 refine .q fun K2 k2 => ?_
 refine rg 1 ?_
 conv => whnf
 refine k2 _ _ ?_
 refine .q fun K3 k3 => ?_
 refine rg 0 ?_
 conv => whnf
 obtain ⟨x1, hx1, h⟩ := ob h
 refine bF [1] [] [.ptr 0 0, .agg [.int .i64 p0.kind, .str p0.name, .slice (List.map aH p0.kids) .shared], .int .i64 1, .bool false] [.ptr 1 0, .agg [.int .i64 p0.kind, .str p0.name, .slice (List.map aH p0.kids) .shared], .int .i64 1, .bool false] (BO _ _ _ _ _ _ _ _ hx1) Zj rfl (.cons (rfl) .nil) (by simp; try decide) (.cons (.same _) (.cons (.same _) (.cons (.same _) (.cons (.same _) .nil)))) (rn := .bool x1.1) (rfl) (Hn := [.box [.int .i64 x1.2, .int .i64 16, .int .i64 6]]) ((bJ (rfl) rfl)) ?_
 conv => whnf
 refine k3 _ _ ?_
 refine .ret ?_
 conv => whnf
 have e9 := sj h
 subst e9
 refine hQ _ _ _ (aG aJ (fun g => rfl) ?_)
 conv => whnf
abbrev qev (qd8 : (List Ty) → Int → Option Int) : Prop := ∀ (p0 : List Ty) (p1 : Int) (r : Int), qd8 p0 p1 = some r → aA Tryz.prog 288 [.slice (List.map aH p0) .shared, .func 206 [.ptr 0 0]] [.box [.int .i64 p1]] (.int .i64 r) [.box [.int .i64 p1]]
abbrev qer (qd4 : (List Ty) → Int → Option Bool) : Prop := ∀ (p0 : List Ty) (p1 : Int) (r : Bool), qd4 p0 p1 = some r → aA Tryz.prog 205 [.slice (List.map aH p0) .shared, .func 206 [.ptr 0 0]] [.box [.int .i64 p1]] (.bool r) [.box [.int .i64 p1]]
abbrev qe5 (qeh : Ty → Int → Option Bool) : Prop := ∀ (p0 : Ty) (p1 : Int) (r : Bool), qeh p0 p1 = some r → aA Tryz.prog 154 [.agg [.int .i64 p0.kind, .str p0.name, .slice (List.map aH p0.kids) .shared], .int .i64 p1] [] (.bool r) []
abbrev qe4 (qei : Ty → Int → Option Bool) : Prop := ∀ (p0 : Ty) (p1 : Int) (r : Bool), qei p0 p1 = some r → aA Tryz.prog 206 [.agg [.int .i64 p0.kind, .str p0.name, .slice (List.map aH p0.kids) .shared], .ptr 0 0] [.box [.int .i64 p1]] (.bool r) [.box [.int .i64 p1]]
theorem wV (n : Nat) (qd8 : (List Ty) → Int → Option Int) (qd4 : (List Ty) → Int → Option Bool) (qeh : Ty → Int → Option Bool) (qei : Ty → Int → Option Bool) (qcc : qev qd8) (qca : qer qd4) (qcg : qe5 qeh) (qch : qe4 qei) (p0 : List Ty) (p1 : Int) (r : Int) (h : gD n qd8 qd4 qeh qei p0 p1 = some r) : aA Tryz.prog 288 [.slice (List.map aH p0) .shared, .func 206 [.ptr 0 0]] [.box [.int .i64 p1]] (.int .i64 r) [.box [.int .i64 p1]] := by
 unfold gD at h
 refine aC true Tryz.func288 rfl (by rw [Tryz.ntmps288]; exact Nat.le_of_ble_eq_true rfl) fun Q hQ t ht => ?_
 conv at ht => whnf
 subst ht
 refine .q fun K1 k1 => ?_
 refine rg 0 ?_
 conv => whnf
 refine k1 _ _ ?_
 refine .q fun K2 k2 => ?_
 refine .q fun K3 k3 => ?_
 refine rg 0 ?_
 conv => whnf
 refine aQ (l := p0) (f := aH) ?_
 conv => whnf
 refine k3 _ _ ?_
 refine .block ?_
 obtain ⟨o1, ho1, h⟩ := ob h
 have hR1 : ∀ s2 : Unit, o1 = .nx s2 → ∀ t9 h9, Le 1 t9 h9 (u16 (u2 (.unk :: []))) [.box [.int .i64 p1]] → K2 t9 h9 := by
  intro s2 ho
  subst ho
  dsimp only [LR.el] at h
  intro t9 h9 hw
  refine k2 _ _ (AW.le hw ?_)
  refine .q fun K4 k4 => ?_
  refine rg 0 ?_
  conv => whnf
  refine k4 _ _ ?_
  refine .ret ?_
  conv => whnf
  have e9 := sj h
  subst e9
  refine hQ _ _ _ (d9 (u4 (.int .i64 (-1) :: (u8 (u4 (u2 []))))) [.box [.int .i64 p1]] (wk [some 0] (.u4 (.c rfl (.u8 (.u4 (.u2 .nil))))) (.b rfl (.c rfl .nil) .nil) rfl) (bH aJ [0] rfl (.cons (rfl) .nil) ?_))
  conv => whnf
  first | rfl | (simp; done) | (simp; rfl) | (simp; and_intros <;> rfl)
 refine .loopS (gU n qd8 qd4 qeh qei p0 p1) (fun (s1 : Int) => (.slice (List.map aH p0) .shared :: (.func 206 [.ptr 0 0] :: (u4 (.unk :: (.int .i64 (p0.length : Int) :: (.int .i64 s1 :: (u8 (u2 []))))))))) (fun (s1 : Int) => [.box [.int .i64 p1]]) ho1 (fun _ => rfl) (li (.s (.s (.u4 (.u (.s (.s (.u8 (.u2 .n))))))))) ?_
 intro n1 s1 hs1 KL1 hKL1
 unfold gU at hs1
 refine .q fun K5 k5 => ?_
 refine rg 0 ?_
 conv => whnf
 refine k5 _ _ ?_
 refine .q fun K6 k6 => ?_
 refine .aK rfl hs1 (fun hc1 hs1 => ?_) (fun hc1 hs1 => ?_)
 ·refine .skip ?_
  conv => whnf
  refine k6 _ _ ?_
  refine .q fun K7 k7 => ?_
  refine .block ?_
  refine .q fun K8 k8 => ?_
  refine rg 0 ?_
  conv => whnf
  refine k8 _ _ ?_
  refine .q fun K9 k9 => ?_
  refine rg 0 ?_
  conv => whnf
  obtain ⟨x1, hx1, hs1⟩ := ob hs1
  refine aU (l := p0) (f := aH) (cs := [.int .i64 ((x1).kind), .str ((x1).name), .slice (List.map aH ((x1).kids)) .shared]) hx1 (fC x1) rfl ?_
  conv => whnf
  obtain ⟨x2, hx2, hs1⟩ := ob hs1
  refine bF [0] [] [.agg [.int .i64 x1.kind, .str x1.name, .slice (List.map aH x1.kids) .shared], .ptr 0 0] [.agg [.int .i64 x1.kind, .str x1.name, .slice (List.map aH x1.kids) .shared], .ptr 0 0] (qch _ _ _ hx2) afx rfl (.cons (rfl) .nil) (by simp; try decide) (.cons (.same _) (.cons (.same _) .nil)) (rn := .bool x2) (rfl) (Hn := [.box [.int .i64 p1]]) ((bJ (rfl) rfl)) ?_
  conv => whnf
  refine k9 _ _ ?_
  refine .aK rfl hs1 (fun hc2 hs1 => ?_) (fun hc2 hs1 => ?_)
  ·refine .q fun K10 k10 => ?_
   refine rg 0 ?_
   conv => whnf
   refine k10 _ _ ?_
   refine .ret ?_
   conv => whnf
   have e9 := sj hs1
   subst e9
   dsimp only [LR.el] at h
   have e9 := sj h
   subst e9
   refine hQ _ _ _ (d9 (u4 (.int .i64 s1 :: (u8 (u4 (u2 []))))) [.box [.int .i64 p1]] (wk [some 0] (.u4 (.c rfl (.u8 (.u4 (.u2 .nil))))) (.b rfl (.c rfl .nil) .nil) rfl) (bH aJ [0] rfl (.cons (rfl) .nil) ?_))
   conv => whnf
   first | rfl | (simp; done) | (simp; rfl) | (simp; and_intros <;> rfl)
  refine .skip ?_
  conv => whnf
  refine k7 _ _ ?_
  refine .know 5 0 fun hv1 => ?_
  refine .know 0 0 fun hv2 => ?_
  refine rg 0 ?_
  conv => whnf
  refine ⟨(s1 + 1), by have := bY hv1; have := gI hv2; have h8 := of_decide_eq_true hc1; exact bB (by omega) (by omega), ?_⟩
  conv => whnf
  exact hKL1 _ _ _ hs1 (li (.s (.s (.u4 (.u (.s (.s (.u8 (.u2 .n)))))))))
 refine .exit ?_
 conv => whnf
 exact hR1 _ (sj hs1).symm _ _ (li (.u16 (.u2 (.u .n))))
theorem vG (n : Nat) (qd8 : (List Ty) → Int → Option Int) (qd4 : (List Ty) → Int → Option Bool) (qeh : Ty → Int → Option Bool) (qei : Ty → Int → Option Bool) (qcc : qev qd8) (qca : qer qd4) (qcg : qe5 qeh) (qch : qe4 qei) (p0 : List Ty) (p1 : Int) (r : Bool) (h : fq n qd8 qd4 qeh qei p0 p1 = some r) : aA Tryz.prog 205 [.slice (List.map aH p0) .shared, .func 206 [.ptr 0 0]] [.box [.int .i64 p1]] (.bool r) [.box [.int .i64 p1]] := by
 unfold fq at h
 refine aC true Tryz.func205 rfl (by rw [Tryz.ntmps205]; exact Nat.le_of_ble_eq_true rfl) fun Q hQ t ht => ?_
 conv at ht => whnf
 subst ht
 refine .q fun K1 k1 => ?_
 refine rg 0 ?_
 conv => whnf
 refine k1 _ _ ?_
 refine .q fun K2 k2 => ?_
 refine rg 0 ?_
 conv => whnf
 obtain ⟨x1, hx1, h⟩ := ob h
 refine bF [0] [] [.slice (List.map aH p0) .shared, .func 206 [.ptr 0 0]] [.slice (List.map aH p0) .shared, .func 206 [.ptr 0 0]] (qcc _ _ _ hx1) ZI rfl (.cons (rfl) .nil) (by simp; try decide) (.cons (.same _) (.cons (.same _) .nil)) (rn := .int .i64 x1) (rfl) (Hn := [.box [.int .i64 p1]]) ((bJ (rfl) rfl)) ?_
 conv => whnf
 refine k2 _ _ ?_
 refine .ret ?_
 conv => whnf
 have e9 := sj h
 subst e9
 refine hQ _ _ _ (d9 (u4 (.bool (decide (0 ≤ x1)) :: (u4 []))) [.box [.int .i64 p1]] (wk [some 0] (.u4 (.c rfl (.u4 .nil))) (.b rfl (.c rfl .nil) .nil) rfl) (bH aJ [0] rfl (.cons (rfl) .nil) ?_))
 conv => whnf
 first | rfl | (simp; done) | (simp; rfl) | (simp; and_intros <;> rfl)
theorem Ch (n : Nat) (qd8 : (List Ty) → Int → Option Int) (qd4 : (List Ty) → Int → Option Bool) (qeh : Ty → Int → Option Bool) (qei : Ty → Int → Option Bool) (qcc : qev qd8) (qca : qer qd4) (qcg : qe5 qeh) (qch : qe4 qei) (p0 : Ty) (p1 : Int) (r : Bool) (h : kg n qd8 qd4 qeh qei p0 p1 = some r) : aA Tryz.prog 154 [.agg [.int .i64 p0.kind, .str p0.name, .slice (List.map aH p0.kids) .shared], .int .i64 p1] [] (.bool r) [] := by
 unfold kg at h
 refine aC true Tryz.func154 rfl (by rw [Tryz.ntmps154]; exact Nat.le_of_ble_eq_true rfl) fun Q hQ t ht => ?_
 conv at ht => whnf
 subst ht
 refine .q fun K1 k1 => ?_
 refine rg 2 ?_
 conv => whnf
 refine k1 _ _ ?_
 refine .q fun K2 k2 => ?_
 obtain ⟨s1, hj1, h⟩ := ob h
 have hR1 : ∀ t9 h9, Le 0 t9 h9 (u4 (.bool s1 :: (u8 (u2 [])))) [] → K2 t9 h9 := by
  intro t9 h9 hw
  refine k2 _ _ (AW.le hw ?_)
  clear hw
  refine .ret ?_
  conv => whnf
  have e9 := sj h
  subst e9
  refine hQ _ _ _ (aG aJ (fun g => rfl) ?_)
  conv => whnf
 refine rg 0 ?_
 conv => whnf
 refine aI hj1 (fun hc1 hj1 => ?_) (fun hc1 hj1 => ?_)
 ·conv => whnf
  cases hj1
  exact hR1 _ _ (wk [] (.u4 (.c rfl (.u8 (.u2 .nil)))) .nil rfl)
 conv => whnf
 obtain ⟨x1, hx1, hj1⟩ := ob hj1
 refine bF [1] [] [.slice (List.map aH p0.kids) .shared, .func 206 [.ptr 0 0]] [.slice (List.map aH p0.kids) .shared, .func 206 [.ptr 1 0]] (qca _ _ _ hx1) YX rfl (.cons (rfl) .nil) (by simp; try decide) (.cons (.same _) (.cons (.same _) .nil)) (rn := .bool x1) (rfl) (Hn := [.box [.int .i64 p1]]) ((bJ (rfl) rfl)) ?_
 conv => whnf
 cases hj1
 exact hR1 _ _ (wk [] (.u4 (.c rfl (.u8 (.u2 .nil)))) .nil rfl)
theorem Az (n : Nat) (qd8 : (List Ty) → Int → Option Int) (qd4 : (List Ty) → Int → Option Bool) (qeh : Ty → Int → Option Bool) (qei : Ty → Int → Option Bool) (qcc : qev qd8) (qca : qer qd4) (qcg : qe5 qeh) (qch : qe4 qei) (p0 : Ty) (p1 : Int) (r : Bool) (h : jm n qd8 qd4 qeh qei p0 p1 = some r) : aA Tryz.prog 206 [.agg [.int .i64 p0.kind, .str p0.name, .slice (List.map aH p0.kids) .shared], .ptr 0 0] [.box [.int .i64 p1]] (.bool r) [.box [.int .i64 p1]] := by
 unfold jm at h
 refine aC true Tryz.func206 rfl (by rw [Tryz.ntmps206]; exact Nat.le_of_ble_eq_true rfl) fun Q hQ t ht => ?_
 conv at ht => whnf
 subst ht
 refine .q fun K1 k1 => ?_
 refine rg 1 ?_
 conv => whnf
 refine k1 _ _ ?_
 refine .q fun K2 k2 => ?_
 refine rg 0 ?_
 conv => whnf
 obtain ⟨x1, hx1, h⟩ := ob h
 refine aB (qcg _ _ _ hx1) ZJ (.cons (.same _) (.cons (.same _) .nil)) (fun g => by simp) (fun g => rfl) ?_
 conv => whnf
 refine k2 _ _ ?_
 refine .ret ?_
 conv => whnf
 have e9 := sj h
 subst e9
 refine hQ _ _ _ (d9 (u2 (.unk :: (.bool x1 :: (u2 (.unk :: []))))) [.box [.int .i64 p1]] (wk [some 0] (.u2 (.u (.c rfl (.u2 (.u .nil))))) (.b rfl (.c rfl .nil) .nil) rfl) (bH aJ [0] rfl (.cons (rfl) .nil) ?_))
 conv => whnf
 first | rfl | (simp; done) | (simp; rfl) | (simp; and_intros <;> rfl)
theorem jh (n : Nat) : qev (dZ n) ∧ qer (cO n) ∧ qe5 (fJ n) ∧ qe4 (eZ n) := by
 induction n with
 | zero => exact ⟨(fun p0 p1 r h => by unfold dZ at h; cases h), (fun p0 p1 r h => by unfold cO at h; cases h), (fun p0 p1 r h => by unfold fJ at h; cases h), (fun p0 p1 r h => by unfold eZ at h; cases h)⟩
 | succ n ih =>
  exact ⟨(fun p0 p1 r h => wV n _ _ _ _ ih.1 ih.2.1 ih.2.2.1 ih.2.2.2 p0 p1 r (by unfold dZ at h; exact h)), (fun p0 p1 r h => vG n _ _ _ _ ih.1 ih.2.1 ih.2.2.1 ih.2.2.2 p0 p1 r (by unfold cO at h; exact h)), (fun p0 p1 r h => Ch n _ _ _ _ ih.1 ih.2.1 ih.2.2.1 ih.2.2.2 p0 p1 r (by unfold fJ at h; exact h)), (fun p0 p1 r h => Az n _ _ _ _ ih.1 ih.2.1 ih.2.2.1 ih.2.2.2 p0 p1 r (by unfold eZ at h; exact h))⟩
theorem Ht (n : Nat) : qe5 (fJ n) := (jh n).2.2.1
theorem FJ (n : Nat) (p0 : Ty) (r : Bool) (h : iA n p0 = some r) : aA Tryz.prog 89 [.agg [.int .i64 p0.kind, .str p0.name, .slice (List.map aH p0.kids) .shared]] [] (.bool r) [] := by
 unfold iA at h
 refine aC true Tryz.func89 rfl (by rw [Tryz.ntmps89]; exact Nat.le_of_ble_eq_true rfl) fun Q hQ t ht => ?_
 conv at ht => whnf
 subst ht
 refine .q fun K1 k1 => ?_
 refine rg 1 ?_
 conv => whnf
 refine k1 _ _ ?_
 refine .q fun K2 k2 => ?_
 obtain ⟨s1, hj1, h⟩ := ob h
 have hR1 : ∀ t9 h9, Le 0 t9 h9 (u2 (.bool s1 :: (u4 (u2 (.unk :: []))))) [] → K2 t9 h9 := by
  intro t9 h9 hw
  refine k2 _ _ (AW.le hw ?_)
  clear hw
  refine .ret ?_
  conv => whnf
  have e9 := sj h
  subst e9
  refine hQ _ _ _ (aG aJ (fun g => rfl) ?_)
  conv => whnf
 refine rg 0 ?_
 conv => whnf
 obtain ⟨x1, hx1, hj1⟩ := ob hj1
 refine aB (vk _ _ _ hx1) UU (.cons (.same _) .nil) (fun g => by simp) (fun g => rfl) ?_
 conv => whnf
 refine aI hj1 (fun hc1 hj1 => ?_) (fun hc1 hj1 => ?_)
 ·conv => whnf
  obtain ⟨x2, hx2, hj1⟩ := ob hj1
  refine aB (Ht _ _ _ _ hx2) ZJ (.cons (.same _) (.cons (.same _) .nil)) (fun g => by simp) (fun g => rfl) ?_
  conv => whnf
  cases hj1
  exact hR1 _ _ (wk [] (.u2 (.c rfl (.u4 (.u2 (.u .nil))))) .nil rfl)
 conv => whnf
 cases hj1
 exact hR1 _ _ (wk [] (.u2 (.c rfl (.u4 (.u2 (.u .nil))))) .nil rfl)
abbrev qe3 (qeg : Ty → (List (Str × Bool)) → Option (List (Str × Bool))) : Prop := ∀ (p0 : Ty) (p1 : List (Str × Bool)) (r : List (Str × Bool)), qeg p0 p1 = some r → aA Tryz.prog 159 [.agg [.int .i64 p0.kind, .str p0.name, .slice (List.map aH p0.kids) .shared], .mapr 0] [.mp (List.map (fun p => (p.1, (fun (x : Bool) => .bool x) p.2)) p1)] (.tup []) [.mp (List.map (fun p => (p.1, (fun (x : Bool) => .bool x) p.2)) r)]
theorem Dy (n : Nat) (qeg : Ty → (List (Str × Bool)) → Option (List (Str × Bool))) (qcf : qe3 qeg) (p0 : Ty) (p1 : List (Str × Bool)) (r : List (Str × Bool)) (h : lq n qeg p0 p1 = some r) : aA Tryz.prog 159 [.agg [.int .i64 p0.kind, .str p0.name, .slice (List.map aH p0.kids) .shared], .mapr 0] [.mp (List.map (fun p => (p.1, (fun (x : Bool) => .bool x) p.2)) p1)] (.tup []) [.mp (List.map (fun p => (p.1, (fun (x : Bool) => .bool x) p.2)) r)] := by
 unfold lq at h
 refine aC true Tryz.func159 rfl (by rw [Tryz.ntmps159]; exact Nat.le_of_ble_eq_true rfl) fun Q hQ t ht => ?_
 conv at ht => whnf
 subst ht
 refine .q fun K1 k1 => ?_
 refine rg 1 ?_
 conv => whnf
 refine k1 _ _ ?_
 refine .q fun K2 k2 => ?_
 obtain ⟨s1, hj1, h⟩ := ob h
 have hR1 : ∀ t9 h9, Le 1 t9 h9 (.unk :: (.mapr 0 :: (.ptr 1 0 :: (u16 (u4 []))))) [.mp (List.map (fun p => (p.1, (fun (x : Bool) => .bool x) p.2)) s1), .box [.int .i64 p0.kind, .str p0.name, .slice (List.map aH p0.kids) .shared]] → K2 t9 h9 := by
  intro t9 h9 hw
  refine k2 _ _ (AW.le hw ?_)
  clear hw
  refine .q fun K3 k3 => ?_
  refine rg 0 ?_
  conv => whnf
  refine aQ (l := p0.kids) (f := aH) ?_
  conv => whnf
  refine k3 _ _ ?_
  refine .block ?_
  obtain ⟨o1, ho1, h⟩ := ob h
  have hR2 : ∀ s3 : List (Str × Bool), o1 = .nx s3 → ∀ t9 h9, Le 1 t9 h9 (u16 (u4 (u2 (.unk :: [])))) [.mp (List.map (fun p => (p.1, (fun (x : Bool) => .bool x) p.2)) s3)] → Q .normal t9 h9 := by
   intro s3 ho
   subst ho
   dsimp only [LR.el] at h
   intro t9 h9 hw
   have e9 := sj h
   subst e9
   refine hQ _ _ _ (d9 (u16 (u4 (u2 (.unk :: [])))) [.mp (List.map (fun p => (p.1, (fun (x : Bool) => .bool x) p.2)) s3)] (hw.trans (wk [some 0] (.u16 (.u4 (.u2 (.u .nil)))) (.old (.same rfl (congrArg AObj.mp (yS (f := (fun (x : Bool) => .bool x)) (fun g x => rfl) _ _))) .nil) rfl)) (bH aJ [0] rfl (.cons (congrArg AObj.mp (yS (f := (fun (x : Bool) => .bool x)) (fun g x => rfl) _ _)) .nil) ?_))
   conv => whnf
   first | rfl | (simp; done) | (simp; rfl) | (simp; and_intros <;> rfl)
  refine .loopS (kN n qeg p0) (fun (s2 : Int × (List (Str × Bool))) => (.unk :: (.mapr 0 :: (u8 (u2 (.unk :: (.slice (List.map aH p0.kids) .shared :: (.int .i64 (p0.kids.length : Int) :: (.int .i64 s2.1 :: (u4 (u2 (.unk :: [])))))))))))) (fun (s2 : Int × (List (Str × Bool))) => [.mp (List.map (fun p => (p.1, (fun (x : Bool) => .bool x) p.2)) s2.2)]) ho1 (fun _ => rfl) (wk [some 0] (.u (.c rfl (.u8 (.u2 (.u (.e bf (.c rfl (.c rfl (.u4 (.u2 (.u .nil))))))))))) (.old (.same rfl (congrArg AObj.mp (yS (f := (fun (x : Bool) => .bool x)) (fun g x => rfl) _ _))) .nil) rfl) ?_
  intro n1 s2 hs1 KL1 hKL1
  unfold kN at hs1
  refine .q fun K4 k4 => ?_
  refine rg 0 ?_
  conv => whnf
  refine k4 _ _ ?_
  refine .q fun K5 k5 => ?_
  refine .aK rfl hs1 (fun hc1 hs1 => ?_) (fun hc1 hs1 => ?_)
  ·refine .skip ?_
   conv => whnf
   refine k5 _ _ ?_
   refine .q fun K6 k6 => ?_
   refine .block ?_
   refine .q fun K7 k7 => ?_
   refine rg 1 ?_
   conv => whnf
   obtain ⟨x1, hx1, hs1⟩ := ob hs1
   refine aU (l := p0.kids) (f := aH) (cs := [.int .i64 ((x1).kind), .str ((x1).name), .slice (List.map aH ((x1).kids)) .shared]) hx1 (fC x1) rfl ?_
   conv => whnf
   refine k7 _ _ ?_
   refine rg 0 ?_
   conv => whnf
   obtain ⟨x2, hx2, hs1⟩ := ob hs1
   refine bF [0] [] [.agg [.int .i64 x1.kind, .str x1.name, .slice (List.map aH x1.kids) .shared], .mapr 0] [.agg [.int .i64 x1.kind, .str x1.name, .slice (List.map aH x1.kids) .shared], .mapr 0] (qcf _ _ _ hx2) Zw rfl (.cons (congrArg AObj.mp (yS (f := (fun (x : Bool) => .bool x)) (fun g x => rfl) _ _)) .nil) (by simp; try decide) (.cons (.same _) (.cons (.same _) .nil)) (rn := .tup []) (rfl) (Hn := [.mp (List.map (fun p => (p.1, (fun (x : Bool) => .bool x) p.2)) x2)]) ((bJ (congrArg AObj.mp (yS (f := (fun (x : Bool) => .bool x)) (fun g x => rfl) _ _)) rfl)) ?_
   conv => whnf
   refine k6 _ _ ?_
   refine .know 15 0 fun hv1 => ?_
   refine .know 13 0 fun hv2 => ?_
   refine rg 0 ?_
   conv => whnf
   refine ⟨(s2.1 + 1), by have := bY hv1; have := gI hv2; have h8 := of_decide_eq_true hc1; exact bB (by omega) (by omega), ?_⟩
   conv => whnf
   exact hKL1 _ _ _ hs1 (wk [some 0] (.u (.c rfl (.u8 (.u2 (.u (.e bf (.c rfl (.c rfl (.u4 (.u2 (.u .nil))))))))))) (.old (.same rfl (congrArg AObj.mp (yS (f := (fun (x : Bool) => .bool x)) (fun g x => rfl) _ _))) .nil) rfl)
  refine .exit ?_
  conv => whnf
  exact hR2 _ (sj hs1).symm _ _ (li (.u16 (.u4 (.u2 (.u .n)))))
 refine .q fun K8 k8 => ?_
 refine rg 0 ?_
 conv => whnf
 refine k8 _ _ ?_
 refine .aK rfl hj1 (fun hc2 hj1 => ?_) (fun hc2 hj1 => ?_)
 ·refine rg 0 ?_
  conv => whnf
  obtain ⟨x3, hx3, hj1⟩ := ob hj1
  refine ab8 (m := p1) (f := (fun (x : Bool) => .bool x)) hx3 rfl ?_
  conv => whnf
  cases hj1
  exact hR1 _ _ (li (.u (.s (.s (.u16 (.u4 .n))))))
 refine .skip ?_
 conv => whnf
 cases hj1
 exact hR1 _ _ (li (.u (.s (.s (.u16 (.u4 .n))))))
theorem GX (n : Nat) : qe3 (iy n) := by
 induction n with
 | zero => exact (fun p0 p1 r h => by unfold iy at h; cases h)
 | succ n ih =>
  exact (fun p0 p1 r h => Dy n _ ih p0 p1 r (by unfold iy at h; exact h))
theorem JY (n : Nat) : qe3 (iy n) := (GX n)
theorem zG (n : Nat) (p0 : Ty) (r : List Str) (h : jf n p0 = some r) : aA Tryz.prog 95 [.agg [.int .i64 p0.kind, .str p0.name, .slice (List.map aH p0.kids) .shared]] [] (.slice (List.map encS r) .shared) [] := by
 unfold jf at h
 refine aC true Tryz.func95 rfl (by rw [Tryz.ntmps95]; exact Nat.le_of_ble_eq_true rfl) fun Q hQ t ht => ?_
 conv at ht => whnf
 subst ht
 refine .q fun K1 k1 => ?_
 refine rg 1 ?_
 conv => whnf
 refine k1 _ _ ?_
 refine .q fun K2 k2 => ?_
 refine .q fun K3 k3 => ?_
 refine rg 0 ?_
 conv => whnf
 obtain ⟨x1, hx1, h⟩ := ob h
 refine aB (vk _ _ _ hx1) UU (.cons (.same _) .nil) (fun g => by simp) (fun g => rfl) ?_
 conv => whnf
 refine k3 _ _ ?_
 refine .aK rfl h (fun hc1 h => ?_) (fun hc1 h => ?_)
 ·refine .q fun K4 k4 => ?_
  refine rg 0 ?_
  conv => whnf
  refine k4 _ _ ?_
  refine .ret ?_
  conv => whnf
  have e9 := sj h
  subst e9
  refine hQ _ _ _ (aG aJ (fun g => by simp) ?_)
  conv => whnf
  try rfl
 refine .skip ?_
 conv => whnf
 refine k2 _ _ ?_
 refine .q fun K5 k5 => ?_
 refine rg 1 ?_
 conv => whnf
 refine k5 _ _ ?_
 refine .q fun K6 k6 => ?_
 refine rg 0 ?_
 conv => whnf
 obtain ⟨x2, hx2, h⟩ := ob h
 refine bF [1] [] [.agg [.int .i64 p0.kind, .str p0.name, .slice (List.map aH p0.kids) .shared], .mapr 0] [.agg [.int .i64 p0.kind, .str p0.name, .slice (List.map aH p0.kids) .shared], .mapr 1] (JY _ _ _ _ hx2) Zw rfl (.cons (congrArg AObj.mp (yS (f := (fun (x : Bool) => .bool x)) (fun g x => rfl) _ _)) .nil) (by simp; try decide) (.cons (.same _) (.cons (.same _) .nil)) (rn := .tup []) (rfl) (Hn := [.mp (List.map (fun p => (p.1, (fun (x : Bool) => .bool x) p.2)) x2)]) ((bJ (congrArg AObj.mp (yS (f := (fun (x : Bool) => .bool x)) (fun g x => rfl) _ _)) rfl)) ?_
 conv => whnf
 refine k6 _ _ ?_
 refine .q fun K7 k7 => ?_
 refine rg 1 ?_
 conv => whnf
 refine bF [1] [2] [.mapr 0] [.mapr 1] (JJ 0 x2 _ rfl) aeM rfl (.cons (congrArg AObj.mp (yS (f := (fun (x : Bool) => .bool x)) (fun g x => rfl) _ _)) .nil) (by simp; try decide) (.cons (.same _) .nil) (rn := .func 212 [.ptr 2 0]) (by simp; try decide) (Hn := [.mp (List.map (fun p => (p.1, (fun (x : Bool) => .bool x) p.2)) x2), .box [.mapr 1]]) ((bJ (congrArg AObj.mp (yS (f := (fun (x : Bool) => .bool x)) (fun g x => rfl) _ _)) (bJ rfl rfl))) ?_
 conv => whnf
 obtain ⟨x3, hx3, h⟩ := ob h
 refine bF [1, 2] [] [.func 212 [.ptr 1 0]] [.func 212 [.ptr 2 0]] (Ce _ _ _ hx3) aeJ rfl (.cons (congrArg AObj.mp (yS (f := (fun (x : Bool) => .bool x)) (fun g x => rfl) _ _)) (.cons rfl .nil)) (by simp; try decide) (.cons (.same _) .nil) (rn := .slice (List.map encS x3) .shared) (by simp; try decide) (Hn := [.mp (List.map (fun p => (p.1, (fun (x : Bool) => .bool x) p.2)) x2), .box [.mapr 1]]) ((bJ (congrArg AObj.mp (yS (f := (fun (x : Bool) => .bool x)) (fun g x => rfl) _ _)) (bJ rfl rfl))) ?_
 conv => whnf
 refine k7 _ _ ?_
 refine .ret ?_
 conv => whnf
 have e9 := sj h
 subst e9
 refine hQ _ _ _ (aG aJ (fun g => by simp) ?_)
 conv => whnf
 try rfl
theorem CZ (n : Nat) (p0 : Carrier) (p1 : Str) (r : Bool) (h : yJ n p0 p1 = some r) : aA Tryz.prog 208 [.agg [.str p0.name, .slice (List.map encS p0.elems) .shared], .ptr 0 0] [.box [.str p1]] (.bool r) [.box [.str p1]] := by
 unfold yJ at h
 refine aC true Tryz.func208 rfl (by rw [Tryz.ntmps208]; exact Nat.le_of_ble_eq_true rfl) fun Q hQ t ht => ?_
 conv at ht => whnf
 subst ht
 refine .q fun K1 k1 => ?_
 refine rg 1 ?_
 conv => whnf
 refine k1 _ _ ?_
 refine .q fun K2 k2 => ?_
 refine rg 0 ?_
 conv => whnf
 refine k2 _ _ ?_
 refine .ret ?_
 conv => whnf
 have e9 := sj h
 subst e9
 refine hQ _ _ _ (d9 (u2 (.unk :: (.bool (p0.name == p1) :: (u4 [])))) [.box [.str p1]] (wk [some 0] (.u2 (.u (.c rfl (.u4 .nil)))) (.b rfl (.c rfl .nil) .nil) rfl) (bH aJ [0] rfl (.cons (rfl) .nil) ?_))
 conv => whnf
 first | rfl | (simp; done) | (simp; rfl) | (simp; and_intros <;> rfl)
theorem zT (n : Nat) (p0 : List Carrier) (p1 : Str) (r : Int) (h : kC n p0 p1 = some r) : aA Tryz.prog 119 [.slice (List.map aj p0) .shared, .func 208 [.ptr 0 0]] [.box [.str p1]] (.int .i64 r) [.box [.str p1]] := by
 unfold kC at h
 refine aC true Tryz.func119 rfl (by rw [Tryz.ntmps119]; exact Nat.le_of_ble_eq_true rfl) fun Q hQ t ht => ?_
 conv at ht => whnf
 subst ht
 refine .q fun K1 k1 => ?_
 refine rg 0 ?_
 conv => whnf
 refine k1 _ _ ?_
 refine .q fun K2 k2 => ?_
 refine .q fun K3 k3 => ?_
 refine rg 0 ?_
 conv => whnf
 refine aQ (l := p0) (f := aj) ?_
 conv => whnf
 refine k3 _ _ ?_
 refine .block ?_
 obtain ⟨o1, ho1, h⟩ := ob h
 have hR1 : ∀ s2 : Unit, o1 = .nx s2 → ∀ t9 h9, Le 1 t9 h9 (u16 (u2 (.unk :: []))) [.box [.str p1]] → K2 t9 h9 := by
  intro s2 ho
  subst ho
  dsimp only [LR.el] at h
  intro t9 h9 hw
  refine k2 _ _ (AW.le hw ?_)
  refine .q fun K4 k4 => ?_
  refine rg 0 ?_
  conv => whnf
  refine k4 _ _ ?_
  refine .ret ?_
  conv => whnf
  have e9 := sj h
  subst e9
  refine hQ _ _ _ (d9 (u4 (.int .i64 (-1) :: (u8 (u4 (u2 []))))) [.box [.str p1]] (wk [some 0] (.u4 (.c rfl (.u8 (.u4 (.u2 .nil))))) (.b rfl (.c rfl .nil) .nil) rfl) (bH aJ [0] rfl (.cons (rfl) .nil) ?_))
  conv => whnf
  first | rfl | (simp; done) | (simp; rfl) | (simp; and_intros <;> rfl)
 refine .loopS (gL n p0 p1) (fun (s1 : Int) => (.slice (List.map aj p0) .shared :: (.func 208 [.ptr 0 0] :: (u4 (.unk :: (.int .i64 (p0.length : Int) :: (.int .i64 s1 :: (u8 (u2 []))))))))) (fun (s1 : Int) => [.box [.str p1]]) ho1 (fun _ => rfl) (li (.s (.s (.u4 (.u (.s (.s (.u8 (.u2 .n))))))))) ?_
 intro n1 s1 hs1 KL1 hKL1
 unfold gL at hs1
 refine .q fun K5 k5 => ?_
 refine rg 0 ?_
 conv => whnf
 refine k5 _ _ ?_
 refine .q fun K6 k6 => ?_
 refine .aK rfl hs1 (fun hc1 hs1 => ?_) (fun hc1 hs1 => ?_)
 ·refine .skip ?_
  conv => whnf
  refine k6 _ _ ?_
  refine .q fun K7 k7 => ?_
  refine .block ?_
  refine .q fun K8 k8 => ?_
  refine rg 0 ?_
  conv => whnf
  refine k8 _ _ ?_
  refine .q fun K9 k9 => ?_
  refine rg 0 ?_
  conv => whnf
  obtain ⟨x1, hx1, hs1⟩ := ob hs1
  refine aU (l := p0) (f := aj) (cs := [.str ((x1).name), .slice (List.map encS ((x1).elems)) .shared]) hx1 (rfl) rfl ?_
  conv => whnf
  refine bF [0] [] [.agg [.str x1.name, .slice (List.map encS x1.elems) .shared], .ptr 0 0] [.agg [.str x1.name, .slice (List.map encS x1.elems) .shared], .ptr 0 0] (CZ 0 x1 p1 _ rfl) aeV rfl (.cons (rfl) .nil) (by simp; try decide) (.cons (.same _) (.cons (.same _) .nil)) (rn := .bool (x1.name == p1)) (rfl) (Hn := [.box [.str p1]]) ((bJ (rfl) rfl)) ?_
  conv => whnf
  refine k9 _ _ ?_
  refine .aK rfl hs1 (fun hc2 hs1 => ?_) (fun hc2 hs1 => ?_)
  ·refine .q fun K10 k10 => ?_
   refine rg 0 ?_
   conv => whnf
   refine k10 _ _ ?_
   refine .ret ?_
   conv => whnf
   have e9 := sj hs1
   subst e9
   dsimp only [LR.el] at h
   have e9 := sj h
   subst e9
   refine hQ _ _ _ (d9 (u4 (.int .i64 s1 :: (u8 (u4 (u2 []))))) [.box [.str p1]] (wk [some 0] (.u4 (.c rfl (.u8 (.u4 (.u2 .nil))))) (.b rfl (.c rfl .nil) .nil) rfl) (bH aJ [0] rfl (.cons (rfl) .nil) ?_))
   conv => whnf
   first | rfl | (simp; done) | (simp; rfl) | (simp; and_intros <;> rfl)
  refine .skip ?_
  conv => whnf
  refine k7 _ _ ?_
  refine .know 5 0 fun hv1 => ?_
  refine .know 0 0 fun hv2 => ?_
  refine rg 0 ?_
  conv => whnf
  refine ⟨(s1 + 1), by have := bY hv1; have := gI hv2; have h8 := of_decide_eq_true hc1; exact bB (by omega) (by omega), ?_⟩
  conv => whnf
  exact hKL1 _ _ _ hs1 (li (.s (.s (.u4 (.u (.s (.s (.u8 (.u2 .n)))))))))
 refine .exit ?_
 conv => whnf
 exact hR1 _ (sj hs1).symm _ _ (li (.u16 (.u2 (.u .n))))
theorem xQ (n : Nat) (p0 : List Carrier) (p1 : Str) (r : Bool) (h : jg n p0 p1 = some r) : aA Tryz.prog 207 [.slice (List.map aj p0) .shared, .func 208 [.ptr 0 0]] [.box [.str p1]] (.bool r) [.box [.str p1]] := by
 unfold jg at h
 refine aC true Tryz.func207 rfl (by rw [Tryz.ntmps207]; exact Nat.le_of_ble_eq_true rfl) fun Q hQ t ht => ?_
 conv at ht => whnf
 subst ht
 refine .q fun K1 k1 => ?_
 refine rg 0 ?_
 conv => whnf
 refine k1 _ _ ?_
 refine .q fun K2 k2 => ?_
 refine rg 0 ?_
 conv => whnf
 obtain ⟨x1, hx1, h⟩ := ob h
 refine bF [0] [] [.slice (List.map aj p0) .shared, .func 208 [.ptr 0 0]] [.slice (List.map aj p0) .shared, .func 208 [.ptr 0 0]] (zT _ _ _ _ hx1) ZE rfl (.cons (rfl) .nil) (by simp; try decide) (.cons (.same _) (.cons (.same _) .nil)) (rn := .int .i64 x1) (rfl) (Hn := [.box [.str p1]]) ((bJ (rfl) rfl)) ?_
 conv => whnf
 refine k2 _ _ ?_
 refine .ret ?_
 conv => whnf
 have e9 := sj h
 subst e9
 refine hQ _ _ _ (d9 (u4 (.bool (decide (0 ≤ x1)) :: (u4 []))) [.box [.str p1]] (wk [some 0] (.u4 (.c rfl (.u4 .nil))) (.b rfl (.c rfl .nil) .nil) rfl) (bH aJ [0] rfl (.cons (rfl) .nil) ?_))
 conv => whnf
 first | rfl | (simp; done) | (simp; rfl) | (simp; and_intros <;> rfl)
theorem FL (n : Nat) (p0 : Env) (p1 : Str) (r : Bool) (h : ng n p0 p1 = some r) : aA Tryz.prog 156 [.agg [.slice (List.map aj p0.carriers) .shared, .slice (List.map ak p0.names) .shared], .str p1] [] (.bool r) [] := by
 unfold ng at h
 refine aC true Tryz.func156 rfl (by rw [Tryz.ntmps156]; exact Nat.le_of_ble_eq_true rfl) fun Q hQ t ht => ?_
 conv at ht => whnf
 subst ht
 refine .q fun K1 k1 => ?_
 refine rg 2 ?_
 conv => whnf
 refine k1 _ _ ?_
 refine .q fun K2 k2 => ?_
 refine rg 0 ?_
 conv => whnf
 obtain ⟨x1, hx1, h⟩ := ob h
 refine bF [1] [] [.slice (List.map aj p0.carriers) .shared, .func 208 [.ptr 0 0]] [.slice (List.map aj p0.carriers) .shared, .func 208 [.ptr 1 0]] (xQ _ _ _ _ hx1) ae7 rfl (.cons (rfl) .nil) (by simp; try decide) (.cons (.same _) (.cons (.same _) .nil)) (rn := .bool x1) (rfl) (Hn := [.box [.str p1]]) ((bJ (rfl) rfl)) ?_
 conv => whnf
 refine k2 _ _ ?_
 refine .ret ?_
 conv => whnf
 have e9 := sj h
 subst e9
 refine hQ _ _ _ (aG aJ (fun g => rfl) ?_)
 conv => whnf
theorem EM (n : Nat) (p0 : Str) (p1 : List Carrier) (p2 : List Decl) (r : Bool) (h : mZ n p0 p1 p2 = some r) : aA Tryz.prog 155 [.str p0, .ptr 0 0] [.box [.slice (List.map aj p1) .shared, .slice (List.map ak p2) .shared]] (.bool r) [.box [.slice (List.map aj p1) .shared, .slice (List.map ak p2) .shared]] := by
 unfold mZ at h
 refine aC true Tryz.func155 rfl (by rw [Tryz.ntmps155]; exact Nat.le_of_ble_eq_true rfl) fun Q hQ t ht => ?_
 conv at ht => whnf
 subst ht
 refine .q fun K1 k1 => ?_
 refine rg 0 ?_
 conv => whnf
 refine k1 _ _ ?_
 refine .q fun K2 k2 => ?_
 refine rg 0 ?_
 conv => whnf
 obtain ⟨x1, hx1, h⟩ := ob h
 refine aB (FL _ _ _ _ hx1) aeG (.cons (.same _) (.cons (.same _) .nil)) (fun g => by simp) (fun g => rfl) ?_
 conv => whnf
 refine k2 _ _ ?_
 refine .ret ?_
 conv => whnf
 have e9 := sj h
 subst e9
 refine hQ _ _ _ (d9 (u2 (.unk :: (.bool (!x1) :: (u4 [])))) [.box [.slice (List.map aj p1) .shared, .slice (List.map ak p2) .shared]] (wk [some 0] (.u2 (.u (.c rfl (.u4 .nil)))) (.b rfl (.e au (.e aF .nil)) .nil) rfl) (bH aJ [0] rfl (.cons (by simp only [bS, ren, bD, bq, dx, bM, aR, bE, bQ, bf, bP, au, aF, aD, aS, aL, aT]; try rfl) .nil) ?_))
 conv => whnf
 first | rfl | (simp; done) | (simp; rfl) | (simp; and_intros <;> rfl)
theorem Ad (n : Nat) (p0 : List Str) (p1 : List Carrier) (p2 : List Decl) (r : Int) (h : kY n p0 p1 p2 = some r) : aA Tryz.prog 158 [.slice (List.map encS p0) .shared, .func 155 [.ptr 0 0]] [.box [.slice (List.map aj p1) .shared, .slice (List.map ak p2) .shared]] (.int .i64 r) [.box [.slice (List.map aj p1) .shared, .slice (List.map ak p2) .shared]] := by
 unfold kY at h
 refine aC true Tryz.func158 rfl (by rw [Tryz.ntmps158]; exact Nat.le_of_ble_eq_true rfl) fun Q hQ t ht => ?_
 conv at ht => whnf
 subst ht
 refine .q fun K1 k1 => ?_
 refine rg 0 ?_
 conv => whnf
 refine k1 _ _ ?_
 refine .q fun K2 k2 => ?_
 refine .q fun K3 k3 => ?_
 refine rg 0 ?_
 conv => whnf
 refine aQ (l := p0) (f := encS) ?_
 conv => whnf
 refine k3 _ _ ?_
 refine .block ?_
 obtain ⟨o1, ho1, h⟩ := ob h
 have hR1 : ∀ s2 : Unit, o1 = .nx s2 → ∀ t9 h9, Le 1 t9 h9 (u16 (u2 (.unk :: []))) [.box [.slice (List.map aj p1) .shared, .slice (List.map ak p2) .shared]] → K2 t9 h9 := by
  intro s2 ho
  subst ho
  dsimp only [LR.el] at h
  intro t9 h9 hw
  refine k2 _ _ (AW.le hw ?_)
  refine .q fun K4 k4 => ?_
  refine rg 0 ?_
  conv => whnf
  refine k4 _ _ ?_
  refine .ret ?_
  conv => whnf
  have e9 := sj h
  subst e9
  refine hQ _ _ _ (d9 (u4 (.int .i64 (-1) :: (u8 (u4 (u2 []))))) [.box [.slice (List.map aj p1) .shared, .slice (List.map ak p2) .shared]] (wk [some 0] (.u4 (.c rfl (.u8 (.u4 (.u2 .nil))))) (.b rfl (.e au (.e aF .nil)) .nil) rfl) (bH aJ [0] rfl (.cons (by simp only [bS, ren, bD, bq, dx, bM, aR, bE, bQ, bf, bP, au, aF, aD, aS, aL, aT]; try rfl) .nil) ?_))
  conv => whnf
  first | rfl | (simp; done) | (simp; rfl) | (simp; and_intros <;> rfl)
 refine .loopS (gX n p0 p1 p2) (fun (s1 : Int) => (.slice (List.map encS p0) .shared :: (.func 155 [.ptr 0 0] :: (u4 (.unk :: (.int .i64 (p0.length : Int) :: (.int .i64 s1 :: (u8 (u2 []))))))))) (fun (s1 : Int) => [.box [.slice (List.map aj p1) .shared, .slice (List.map ak p2) .shared]]) ho1 (fun _ => rfl) (li (.s (.s (.u4 (.u (.s (.s (.u8 (.u2 .n))))))))) ?_
 intro n1 s1 hs1 KL1 hKL1
 unfold gX at hs1
 refine .q fun K5 k5 => ?_
 refine rg 0 ?_
 conv => whnf
 refine k5 _ _ ?_
 refine .q fun K6 k6 => ?_
 refine .aK rfl hs1 (fun hc1 hs1 => ?_) (fun hc1 hs1 => ?_)
 ·refine .skip ?_
  conv => whnf
  refine k6 _ _ ?_
  refine .q fun K7 k7 => ?_
  refine .block ?_
  refine .q fun K8 k8 => ?_
  refine rg 0 ?_
  conv => whnf
  refine k8 _ _ ?_
  refine .q fun K9 k9 => ?_
  refine rg 0 ?_
  conv => whnf
  obtain ⟨x1, hx1, hs1⟩ := ob hs1
  refine aU (l := p0) (f := encS) (cs := [.str (x1)]) hx1 (rfl) rfl ?_
  conv => whnf
  obtain ⟨x2, hx2, hs1⟩ := ob hs1
  refine bF [0] [] [.str x1, .ptr 0 0] [.str x1, .ptr 0 0] (EM _ _ _ _ _ hx2) afw rfl (.cons (by simp only [bS, ren, bD, bq, dx, bM, aR, bE, bQ, bf, bP, au, aF, aD, aS, aL, aT]; try rfl) .nil) (rfl) (.cons (.same _) (.cons (.same _) .nil)) (rn := .bool x2) (rfl) (Hn := [.box [.slice (List.map aj p1) .shared, .slice (List.map ak p2) .shared]]) ((bJ (by simp only [bS, ren, bD, bq, dx, bM, aR, bE, bQ, bf, bP, au, aF, aD, aS, aL, aT]; try rfl) rfl)) ?_
  conv => whnf
  refine k9 _ _ ?_
  refine .aK rfl hs1 (fun hc2 hs1 => ?_) (fun hc2 hs1 => ?_)
  ·refine .q fun K10 k10 => ?_
   refine rg 0 ?_
   conv => whnf
   refine k10 _ _ ?_
   refine .ret ?_
   conv => whnf
   have e9 := sj hs1
   subst e9
   dsimp only [LR.el] at h
   have e9 := sj h
   subst e9
   refine hQ _ _ _ (d9 (u4 (.int .i64 s1 :: (u8 (u4 (u2 []))))) [.box [.slice (List.map aj p1) .shared, .slice (List.map ak p2) .shared]] (wk [some 0] (.u4 (.c rfl (.u8 (.u4 (.u2 .nil))))) (.b rfl (.e au (.e aF .nil)) .nil) rfl) (bH aJ [0] rfl (.cons (by simp only [bS, ren, bD, bq, dx, bM, aR, bE, bQ, bf, bP, au, aF, aD, aS, aL, aT]; try rfl) .nil) ?_))
   conv => whnf
   first | rfl | (simp; done) | (simp; rfl) | (simp; and_intros <;> rfl)
  refine .skip ?_
  conv => whnf
  refine k7 _ _ ?_
  refine .know 5 0 fun hv1 => ?_
  refine .know 0 0 fun hv2 => ?_
  refine rg 0 ?_
  conv => whnf
  refine ⟨(s1 + 1), by have := bY hv1; have := gI hv2; have h8 := of_decide_eq_true hc1; exact bB (by omega) (by omega), ?_⟩
  conv => whnf
  exact hKL1 _ _ _ hs1 (li (.s (.s (.u4 (.u (.s (.s (.u8 (.u2 .n)))))))))
 refine .exit ?_
 conv => whnf
 exact hR1 _ (sj hs1).symm _ _ (li (.u16 (.u2 (.u .n))))
theorem yu (n : Nat) (p0 : List Str) (p1 : List Carrier) (p2 : List Decl) (r : Bool) (h : jA n p0 p1 p2 = some r) : aA Tryz.prog 94 [.slice (List.map encS p0) .shared, .func 155 [.ptr 0 0]] [.box [.slice (List.map aj p1) .shared, .slice (List.map ak p2) .shared]] (.bool r) [.box [.slice (List.map aj p1) .shared, .slice (List.map ak p2) .shared]] := by
 unfold jA at h
 refine aC true Tryz.func94 rfl (by rw [Tryz.ntmps94]; exact Nat.le_of_ble_eq_true rfl) fun Q hQ t ht => ?_
 conv at ht => whnf
 subst ht
 refine .q fun K1 k1 => ?_
 refine rg 0 ?_
 conv => whnf
 refine k1 _ _ ?_
 refine .q fun K2 k2 => ?_
 refine rg 0 ?_
 conv => whnf
 obtain ⟨x1, hx1, h⟩ := ob h
 refine bF [0] [] [.slice (List.map encS p0) .shared, .func 155 [.ptr 0 0]] [.slice (List.map encS p0) .shared, .func 155 [.ptr 0 0]] (Ad _ _ _ _ _ hx1) ZK rfl (.cons (by simp only [bS, ren, bD, bq, dx, bM, aR, bE, bQ, bf, bP, au, aF, aD, aS, aL, aT]; try rfl) .nil) (by simp; try decide) (.cons (.same _) (.cons (.same _) .nil)) (rn := .int .i64 x1) (rfl) (Hn := [.box [.slice (List.map aj p1) .shared, .slice (List.map ak p2) .shared]]) ((bJ (by simp only [bS, ren, bD, bq, dx, bM, aR, bE, bQ, bf, bP, au, aF, aD, aS, aL, aT]; try rfl) rfl)) ?_
 conv => whnf
 refine k2 _ _ ?_
 refine .ret ?_
 conv => whnf
 have e9 := sj h
 subst e9
 refine hQ _ _ _ (d9 (u4 (.bool (decide (0 ≤ x1)) :: (u4 []))) [.box [.slice (List.map aj p1) .shared, .slice (List.map ak p2) .shared]] (wk [some 0] (.u4 (.c rfl (.u4 .nil))) (.b rfl (.e au (.e aF .nil)) .nil) rfl) (bH aJ [0] rfl (.cons (by simp only [bS, ren, bD, bq, dx, bM, aR, bE, bQ, bf, bP, au, aF, aD, aS, aL, aT]; try rfl) .nil) ?_))
 conv => whnf
 first | rfl | (simp; done) | (simp; rfl) | (simp; and_intros <;> rfl)
theorem Ij (n : Nat) (p0 : Env) (p1 : Ty) (r : Bool) (h : ji n p0 p1 = some r) : aA Tryz.prog 90 [.agg [.slice (List.map aj p0.carriers) .shared, .slice (List.map ak p0.names) .shared], .agg [.int .i64 p1.kind, .str p1.name, .slice (List.map aH p1.kids) .shared]] [] (.bool r) [] := by
 unfold ji at h
 refine aC true Tryz.func90 rfl (by rw [Tryz.ntmps90]; exact Nat.le_of_ble_eq_true rfl) fun Q hQ t ht => ?_
 conv at ht => whnf
 subst ht
 refine .q fun K1 k1 => ?_
 refine rg 2 ?_
 conv => whnf
 refine k1 _ _ ?_
 refine .q fun K2 k2 => ?_
 refine rg 0 ?_
 conv => whnf
 obtain ⟨x1, hx1, h⟩ := ob h
 refine aB (zG _ _ _ hx1) abF (.cons (.same _) .nil) (fun g => by simp) (fun g => by simp) ?_
 conv => whnf
 obtain ⟨x2, hx2, h⟩ := ob h
 refine bF [0] [] [.slice (List.map encS x1) .shared, .func 155 [.ptr 0 0]] [.slice (List.map encS x1) .shared, .func 155 [.ptr 0 0]] (yu _ _ _ _ _ hx2) ach rfl (.cons (by simp only [bS, ren, bD, bq, dx, bM, aR, bE, bQ, bf, bP, au, aF, aD, aS, aL, aT]; try rfl) .nil) (by simp; try decide) (.cons (.same _) (.cons (.same _) .nil)) (rn := .bool x2) (rfl) (Hn := [.box [.slice (List.map aj p0.carriers) .shared, .slice (List.map ak p0.names) .shared]]) ((bJ (by simp only [bS, ren, bD, bq, dx, bM, aR, bE, bQ, bf, bP, au, aF, aD, aS, aL, aT]; try rfl) rfl)) ?_
 conv => whnf
 refine k2 _ _ ?_
 refine .ret ?_
 conv => whnf
 have e9 := sj h
 subst e9
 refine hQ _ _ _ (aG aJ (fun g => rfl) ?_)
 conv => whnf
theorem e6x0 {p q : Prop} (f : p → q) (h : p := by exact wk [] (.u (.e aR (.u8 (.u4 (.e au (.c rfl (.c rfl (.u16 (.u8 (.u4 (.u2 (.u (.c rfl (.u .nil)))))))))))))) .nil rfl) : q := f h
theorem wG (n : Nat) (p0 : Env) (p1 : List Int) (r : Bool) (h : mR n p0 p1 = some r) : aA Tryz.prog 43 [.agg [.slice (List.map aj p0.carriers) .shared, .slice (List.map ak p0.names) .shared], .slice (List.map encI p1) .shared] [] (.bool r) [] := by
 unfold mR at h
 refine aC true Tryz.func43 rfl (by rw [Tryz.ntmps43]; exact Nat.le_of_ble_eq_true rfl) fun Q hQ t ht => ?_
 conv at ht => whnf
 subst ht
 refine .q fun K1 k1 => ?_
 refine rg 1 ?_
 conv => whnf
 refine k1 _ _ ?_
 refine .q fun K2 k2 => ?_
 refine .q fun K3 k3 => ?_
 refine rg 0 ?_
 conv => whnf
 refine aQ (l := p1) (f := encI) ?_
 conv => whnf
 refine aQ (l := p0.carriers) (f := aj) ?_
 conv => whnf
 refine k3 _ _ ?_
 refine .aK rfl h (fun hc1 h => ?_) (fun hc1 h => ?_)
 ·refine .q fun K4 k4 => ?_
  refine rg 0 ?_
  conv => whnf
  refine k4 _ _ ?_
  refine .ret ?_
  conv => whnf
  have e9 := sj h
  subst e9
  refine hQ _ _ _ (aG aJ (fun g => rfl) ?_)
  conv => whnf
 refine .skip ?_
 conv => whnf
 refine k2 _ _ ?_
 refine .q fun K5 k5 => ?_
 refine .q fun K6 k6 => ?_
 refine rg 0 ?_
 conv => whnf
 refine aQ (l := p0.carriers) (f := aj) ?_
 conv => whnf
 refine k6 _ _ ?_
 refine .block ?_
 obtain ⟨o1, ho1, h⟩ := ob h
 have hR1 : ∀ s2 : Unit, o1 = .nx s2 → ∀ t9 h9, Le 0 t9 h9 (u32 (u16 (u2 []))) [] → K5 t9 h9 := by
  intro s2 ho
  subst ho
  dsimp only [LR.el] at h
  intro t9 h9 hw
  refine k5 _ _ (AW.le hw ?_)
  refine .q fun K7 k7 => ?_
  refine rg 0 ?_
  conv => whnf
  refine k7 _ _ ?_
  refine .ret ?_
  conv => whnf
  have e9 := sj h
  subst e9
  refine hQ _ _ _ (aG aJ (fun g => rfl) ?_)
  conv => whnf
 refine .loopS (jG n p0 p1) (fun (s1 : Int) => (.unk :: (.slice (List.map encI p1) .shared :: (u8 (u4 (.slice (List.map aj p0.carriers) .shared :: (.int .i64 (p0.carriers.length : Int) :: (.int .i64 s1 :: (u32 (.unk :: [])))))))))) (fun (s1 : Int) => []) ho1 (fun _ => rfl) (wk [] (.u (.e aR (.u8 (.u4 (.e au (.c rfl (.c rfl (.u32 (.u .nil))))))))) .nil rfl) ?_
 intro n1 s1 hs1 KL1 hKL1
 unfold jG at hs1
 refine .q fun K8 k8 => ?_
 refine rg 0 ?_
 conv => whnf
 refine k8 _ _ ?_
 refine .q fun K9 k9 => ?_
 refine .aK rfl hs1 (fun hc2 hs1 => ?_) (fun hc2 hs1 => ?_)
 ·refine .skip ?_
  conv => whnf
  refine k9 _ _ ?_
  refine .q fun K10 k10 => ?_
  refine .block ?_
  refine .q fun K11 k11 => ?_
  refine rg 1 ?_
  conv => whnf
  obtain ⟨x1, hx1, hs1⟩ := ob hs1
  refine aU (l := p0.carriers) (f := aj) (cs := [.str ((x1).name), .slice (List.map encS ((x1).elems)) .shared]) hx1 (rfl) rfl ?_
  conv => whnf
  refine k11 _ _ ?_
  refine .q fun K12 k12 => ?_
  obtain ⟨s3, hj1, hs1⟩ := ob hs1
  have hR2 : ∀ t9 h9, Le 0 t9 h9 (.unk :: (.slice (List.map encI p1) .shared :: (u8 (u4 (.slice (List.map aj p0.carriers) .shared :: (.int .i64 (p0.carriers.length : Int) :: (.int .i64 s1 :: (u16 (u8 (u4 (u2 (.unk :: (.bool s3 :: (.unk :: [])))))))))))))) [] → K12 t9 h9 := by
   intro t9 h9 hw
   refine k12 _ _ (AW.le hw ?_)
   clear hw
   refine .aK rfl hs1 (fun hc3 hs1 => ?_) (fun hc3 hs1 => ?_)
   ·refine .q fun K13 k13 => ?_
    refine rg 0 ?_
    conv => whnf
    refine k13 _ _ ?_
    refine .ret ?_
    conv => whnf
    have e9 := sj hs1
    subst e9
    dsimp only [LR.el] at h
    have e9 := sj h
    subst e9
    refine hQ _ _ _ (aG aJ (fun g => rfl) ?_)
    conv => whnf
   refine .skip ?_
   conv => whnf
   refine k10 _ _ ?_
   refine .know 16 0 fun hv1 => ?_
   refine .know 14 0 fun hv2 => ?_
   refine rg 0 ?_
   conv => whnf
   refine ⟨(s1 + 1), by have := bY hv1; have := gI hv2; have h8 := of_decide_eq_true hc2; exact bB (by omega) (by omega), ?_⟩
   conv => whnf
   exact hKL1 _ _ _ hs1 (li (.u (.s (.u8 (.u4 (.s (.s (.s (.u16 (.u16 (.u .n)))))))))))
  refine rg 0 ?_
  conv => whnf
  obtain ⟨x2, hx2, hj1⟩ := ob hj1
  refine aU (l := p1) (f := encI) (cs := [.int .i64 (x2)]) hx2 (rfl) rfl ?_
  conv => whnf
  refine aI hj1 (fun hc4 hj1 => ?_) (fun hc4 hj1 => ?_)
  ·conv => whnf
   refine ⟨by kernel_rfl, ?_⟩
   conv => whnf
   cases hj1
   exact e6x0 (hR2 _ _)
  conv => whnf
  obtain ⟨x3, hx3, hj1⟩ := ob hj1
  refine aU (l := p1) (f := encI) (cs := [.int .i64 (x3)]) hx3 (rfl) rfl ?_
  conv => whnf
  refine aI hj1 (fun hc5 hj1 => ?_) (fun hc5 hj1 => ?_)
  ·conv => whnf
   refine ⟨by kernel_rfl, ?_⟩
   conv => whnf
   cases hj1
   exact e6x0 (hR2 _ _)
  conv => whnf
  refine aQ (l := x1.elems) (f := encS) ?_
  conv => whnf
  refine aI hj1 (fun hc6 hj1 => ?_) (fun hc6 hj1 => ?_)
  ·conv => whnf
   obtain ⟨x4, hx4, hj1⟩ := ob hj1
   refine aU (l := p1) (f := encI) (cs := [.int .i64 (x4)]) hx4 (rfl) rfl ?_
   conv => whnf
   refine aQ (l := x1.elems) (f := encS) ?_
   conv => whnf
   refine ⟨by kernel_rfl, ?_⟩
   conv => whnf
   cases hj1
   exact e6x0 (hR2 _ _)
  conv => whnf
  refine ⟨by kernel_rfl, ?_⟩
  conv => whnf
  cases hj1
  exact e6x0 (hR2 _ _)
 refine .exit ?_
 conv => whnf
 exact hR1 _ (sj hs1).symm _ _ (li (.u16 (.u16 (.u16 (.u2 .n)))))
theorem OD (n : Nat) (p0 : Carrier) (p1 : Str) (r : Bool) (h : Gv n p0 p1 = some r) : aA Tryz.prog 120 [.agg [.str p0.name, .slice (List.map encS p0.elems) .shared], .ptr 0 0] [.box [.str p1]] (.bool r) [.box [.str p1]] := by
 unfold Gv at h
 refine aC true Tryz.func120 rfl (by rw [Tryz.ntmps120]; exact Nat.le_of_ble_eq_true rfl) fun Q hQ t ht => ?_
 conv at ht => whnf
 subst ht
 refine .q fun K1 k1 => ?_
 refine rg 1 ?_
 conv => whnf
 refine k1 _ _ ?_
 refine .q fun K2 k2 => ?_
 refine rg 0 ?_
 conv => whnf
 refine k2 _ _ ?_
 refine .ret ?_
 conv => whnf
 have e9 := sj h
 subst e9
 refine hQ _ _ _ (d9 (u2 (.unk :: (.bool (p0.name == p1) :: (u4 [])))) [.box [.str p1]] (wk [some 0] (.u2 (.u (.c rfl (.u4 .nil)))) (.b rfl (.c rfl .nil) .nil) rfl) (bH aJ [0] rfl (.cons (rfl) .nil) ?_))
 conv => whnf
 first | rfl | (simp; done) | (simp; rfl) | (simp; and_intros <;> rfl)
theorem wW (n : Nat) (p0 : List Carrier) (p1 : Str) (r : Int) (h : iX n p0 p1 = some r) : aA Tryz.prog 119 [.slice (List.map aj p0) .shared, .func 120 [.ptr 0 0]] [.box [.str p1]] (.int .i64 r) [.box [.str p1]] := by
 unfold iX at h
 refine aC true Tryz.func119 rfl (by rw [Tryz.ntmps119]; exact Nat.le_of_ble_eq_true rfl) fun Q hQ t ht => ?_
 conv at ht => whnf
 subst ht
 refine .q fun K1 k1 => ?_
 refine rg 0 ?_
 conv => whnf
 refine k1 _ _ ?_
 refine .q fun K2 k2 => ?_
 refine .q fun K3 k3 => ?_
 refine rg 0 ?_
 conv => whnf
 refine aQ (l := p0) (f := aj) ?_
 conv => whnf
 refine k3 _ _ ?_
 refine .block ?_
 obtain ⟨o1, ho1, h⟩ := ob h
 have hR1 : ∀ s2 : Unit, o1 = .nx s2 → ∀ t9 h9, Le 1 t9 h9 (u16 (u2 (.unk :: []))) [.box [.str p1]] → K2 t9 h9 := by
  intro s2 ho
  subst ho
  dsimp only [LR.el] at h
  intro t9 h9 hw
  refine k2 _ _ (AW.le hw ?_)
  refine .q fun K4 k4 => ?_
  refine rg 0 ?_
  conv => whnf
  refine k4 _ _ ?_
  refine .ret ?_
  conv => whnf
  have e9 := sj h
  subst e9
  refine hQ _ _ _ (d9 (u4 (.int .i64 (-1) :: (u8 (u4 (u2 []))))) [.box [.str p1]] (wk [some 0] (.u4 (.c rfl (.u8 (.u4 (.u2 .nil))))) (.b rfl (.c rfl .nil) .nil) rfl) (bH aJ [0] rfl (.cons (rfl) .nil) ?_))
  conv => whnf
  first | rfl | (simp; done) | (simp; rfl) | (simp; and_intros <;> rfl)
 refine .loopS (fH n p0 p1) (fun (s1 : Int) => (.slice (List.map aj p0) .shared :: (.func 120 [.ptr 0 0] :: (u4 (.unk :: (.int .i64 (p0.length : Int) :: (.int .i64 s1 :: (u8 (u2 []))))))))) (fun (s1 : Int) => [.box [.str p1]]) ho1 (fun _ => rfl) (li (.s (.s (.u4 (.u (.s (.s (.u8 (.u2 .n))))))))) ?_
 intro n1 s1 hs1 KL1 hKL1
 unfold fH at hs1
 refine .q fun K5 k5 => ?_
 refine rg 0 ?_
 conv => whnf
 refine k5 _ _ ?_
 refine .q fun K6 k6 => ?_
 refine .aK rfl hs1 (fun hc1 hs1 => ?_) (fun hc1 hs1 => ?_)
 ·refine .skip ?_
  conv => whnf
  refine k6 _ _ ?_
  refine .q fun K7 k7 => ?_
  refine .block ?_
  refine .q fun K8 k8 => ?_
  refine rg 0 ?_
  conv => whnf
  refine k8 _ _ ?_
  refine .q fun K9 k9 => ?_
  refine rg 0 ?_
  conv => whnf
  obtain ⟨x1, hx1, hs1⟩ := ob hs1
  refine aU (l := p0) (f := aj) (cs := [.str ((x1).name), .slice (List.map encS ((x1).elems)) .shared]) hx1 (rfl) rfl ?_
  conv => whnf
  refine bF [0] [] [.agg [.str x1.name, .slice (List.map encS x1.elems) .shared], .ptr 0 0] [.agg [.str x1.name, .slice (List.map encS x1.elems) .shared], .ptr 0 0] (OD 0 x1 p1 _ rfl) aeo rfl (.cons (rfl) .nil) (by simp; try decide) (.cons (.same _) (.cons (.same _) .nil)) (rn := .bool (x1.name == p1)) (rfl) (Hn := [.box [.str p1]]) ((bJ (rfl) rfl)) ?_
  conv => whnf
  refine k9 _ _ ?_
  refine .aK rfl hs1 (fun hc2 hs1 => ?_) (fun hc2 hs1 => ?_)
  ·refine .q fun K10 k10 => ?_
   refine rg 0 ?_
   conv => whnf
   refine k10 _ _ ?_
   refine .ret ?_
   conv => whnf
   have e9 := sj hs1
   subst e9
   dsimp only [LR.el] at h
   have e9 := sj h
   subst e9
   refine hQ _ _ _ (d9 (u4 (.int .i64 s1 :: (u8 (u4 (u2 []))))) [.box [.str p1]] (wk [some 0] (.u4 (.c rfl (.u8 (.u4 (.u2 .nil))))) (.b rfl (.c rfl .nil) .nil) rfl) (bH aJ [0] rfl (.cons (rfl) .nil) ?_))
   conv => whnf
   first | rfl | (simp; done) | (simp; rfl) | (simp; and_intros <;> rfl)
  refine .skip ?_
  conv => whnf
  refine k7 _ _ ?_
  refine .know 5 0 fun hv1 => ?_
  refine .know 0 0 fun hv2 => ?_
  refine rg 0 ?_
  conv => whnf
  refine ⟨(s1 + 1), by have := bY hv1; have := gI hv2; have h8 := of_decide_eq_true hc1; exact bB (by omega) (by omega), ?_⟩
  conv => whnf
  exact hKL1 _ _ _ hs1 (li (.s (.s (.u4 (.u (.s (.s (.u8 (.u2 .n)))))))))
 refine .exit ?_
 conv => whnf
 exact hR1 _ (sj hs1).symm _ _ (li (.u16 (.u2 (.u .n))))
theorem z8 (n : Nat) (p0 : Env) (p1 : Str) (r : Int) (h : rJ n p0 p1 = some r) : aA Tryz.prog 67 [.agg [.slice (List.map aj p0.carriers) .shared, .slice (List.map ak p0.names) .shared], .str p1] [] (.int .i64 r) [] := by
 unfold rJ at h
 refine aC true Tryz.func67 rfl (by rw [Tryz.ntmps67]; exact Nat.le_of_ble_eq_true rfl) fun Q hQ t ht => ?_
 conv at ht => whnf
 subst ht
 refine .q fun K1 k1 => ?_
 refine rg 2 ?_
 conv => whnf
 refine k1 _ _ ?_
 refine .q fun K2 k2 => ?_
 refine rg 0 ?_
 conv => whnf
 obtain ⟨x1, hx1, h⟩ := ob h
 refine bF [1] [] [.slice (List.map aj p0.carriers) .shared, .func 120 [.ptr 0 0]] [.slice (List.map aj p0.carriers) .shared, .func 120 [.ptr 1 0]] (wW _ _ _ _ hx1) ZE rfl (.cons (rfl) .nil) (by simp; try decide) (.cons (.same _) (.cons (.same _) .nil)) (rn := .int .i64 x1) (rfl) (Hn := [.box [.str p1]]) ((bJ (rfl) rfl)) ?_
 conv => whnf
 refine k2 _ _ ?_
 refine .ret ?_
 conv => whnf
 have e9 := sj h
 subst e9
 refine hQ _ _ _ (aG aJ (fun g => rfl) ?_)
 conv => whnf
theorem A8 (n : Nat) (p0 : Int) (r : Bool) (h : cmp_isNaN_int n p0 = some r) : aA Tryz.prog 114 [.int .i64 p0] [] (.bool r) [] := by
 unfold cmp_isNaN_int at h
 refine aC true Tryz.func114 rfl (by rw [Tryz.ntmps114]; exact Nat.le_of_ble_eq_true rfl) fun Q hQ t ht => ?_
 conv at ht => whnf
 subst ht
 refine .q fun K1 k1 => ?_
 refine rg 0 ?_
 conv => whnf
 refine k1 _ _ ?_
 refine .q fun K2 k2 => ?_
 refine rg 0 ?_
 conv => whnf
 refine k2 _ _ ?_
 refine .ret ?_
 conv => whnf
 have e9 := sj h
 subst e9
 refine hQ _ _ _ (aG aJ (fun g => rfl) ?_)
 conv => whnf
theorem zK (n : Nat) (p0 : Int) (p1 : Int) (r : Int) (h : cmp_Compare_int n p0 p1 = some r) : aA Tryz.prog 60 [.int .i64 p0, .int .i64 p1] [] (.int .i64 r) [] := by
 unfold cmp_Compare_int at h
 refine aC true Tryz.func60 rfl (by rw [Tryz.ntmps60]; exact Nat.le_of_ble_eq_true rfl) fun Q hQ t ht => ?_
 conv at ht => whnf
 subst ht
 refine .q fun K1 k1 => ?_
 refine rg 0 ?_
 conv => whnf
 refine k1 _ _ ?_
 refine .q fun K2 k2 => ?_
 refine rg 0 ?_
 conv => whnf
 refine aB (A8 0 p0 _ rfl) ZN (.cons (.same _) .nil) (fun g => rfl) (fun g => rfl) ?_
 conv => whnf
 refine k2 _ _ ?_
 refine .q fun K3 k3 => ?_
 refine rg 0 ?_
 conv => whnf
 refine aB (A8 0 p1 _ rfl) ZN (.cons (.same _) .nil) (fun g => rfl) (fun g => rfl) ?_
 conv => whnf
 refine k3 _ _ ?_
 refine .q fun K4 k4 => ?_
 refine .q fun K5 k5 => ?_
 refine rg 0 ?_
 conv => whnf
 refine k5 _ _ ?_
 refine .aK rfl h (fun hc1 h => ?_) (fun hc1 h => ?_)
 ·refine .q fun K6 k6 => ?_
  refine .q fun K7 k7 => ?_
  refine rg 0 ?_
  conv => whnf
  refine k7 _ _ ?_
  refine .aK rfl h (fun hc2 h => ?_) (fun hc2 h => ?_)
  ·refine .q fun K8 k8 => ?_
   refine rg 0 ?_
   conv => whnf
   refine k8 _ _ ?_
   refine .ret ?_
   conv => whnf
   have e9 := sj h
   subst e9
   refine hQ _ _ _ (aG aJ (fun g => rfl) ?_)
   conv => whnf
  refine .skip ?_
  conv => whnf
  refine k6 _ _ ?_
  refine .q fun K9 k9 => ?_
  refine rg 0 ?_
  conv => whnf
  refine k9 _ _ ?_
  refine .ret ?_
  conv => whnf
  have e9 := sj h
  subst e9
  refine hQ _ _ _ (aG aJ (fun g => rfl) ?_)
  conv => whnf
 refine .skip ?_
 conv => whnf
 refine k4 _ _ ?_
 refine .q fun K10 k10 => ?_
 refine .q fun K11 k11 => ?_
 refine rg 0 ?_
 conv => whnf
 refine k11 _ _ ?_
 refine .aK rfl h (fun hc3 h => ?_) (fun hc3 h => ?_)
 ·refine .q fun K12 k12 => ?_
  refine rg 0 ?_
  conv => whnf
  refine k12 _ _ ?_
  refine .ret ?_
  conv => whnf
  have e9 := sj h
  subst e9
  refine hQ _ _ _ (aG aJ (fun g => rfl) ?_)
  conv => whnf
 refine .skip ?_
 conv => whnf
 refine k10 _ _ ?_
 refine .q fun K13 k13 => ?_
 refine .q fun K14 k14 => ?_
 refine rg 0 ?_
 conv => whnf
 refine k14 _ _ ?_
 refine .aK rfl h (fun hc4 h => ?_) (fun hc4 h => ?_)
 ·refine .q fun K15 k15 => ?_
  refine rg 0 ?_
  conv => whnf
  refine k15 _ _ ?_
  refine .ret ?_
  conv => whnf
  have e9 := sj h
  subst e9
  refine hQ _ _ _ (aG aJ (fun g => rfl) ?_)
  conv => whnf
 refine .skip ?_
 conv => whnf
 refine k13 _ _ ?_
 refine .q fun K16 k16 => ?_
 refine .q fun K17 k17 => ?_
 refine rg 0 ?_
 conv => whnf
 refine k17 _ _ ?_
 refine .aK rfl h (fun hc5 h => ?_) (fun hc5 h => ?_)
 ·refine .q fun K18 k18 => ?_
  refine rg 0 ?_
  conv => whnf
  refine k18 _ _ ?_
  refine .ret ?_
  conv => whnf
  have e9 := sj h
  subst e9
  refine hQ _ _ _ (aG aJ (fun g => rfl) ?_)
  conv => whnf
 refine .skip ?_
 conv => whnf
 refine k16 _ _ ?_
 refine .q fun K19 k19 => ?_
 refine rg 0 ?_
 conv => whnf
 refine k19 _ _ ?_
 refine .ret ?_
 conv => whnf
 have e9 := sj h
 subst e9
 refine hQ _ _ _ (aG aJ (fun g => rfl) ?_)
 conv => whnf
end Abs
end Go.Proofs.YtkopaeklihhdlaaGreat
