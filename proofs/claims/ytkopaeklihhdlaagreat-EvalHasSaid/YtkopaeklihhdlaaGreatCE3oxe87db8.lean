/-
  Contracts of Go functions (printed). Conditions: none.
-/
import Derived.KernelRfl
import Derived.Test.YtkopaeklihhdlaaGreatCDrnox2ace7b
import Derived.Test.YtkopaeklihhdlaaGreatCE1ox6f3af7
set_option linter.unusedSimpArgs false
set_option linter.unusedVariables false
namespace Go.Proofs.YtkopaeklihhdlaaGreat
namespace Abs
open Go Go.Proofs
set_option maxRecDepth 100000
set_option maxHeartbeats 40000000
theorem qF (n : Nat) (p0 : Ty) (r : Bool) (h : fC n p0 = some r) : aj Tryz.prog 93 [.agg [.int .i64 p0.kind, .str p0.name, .slice (List.map aC p0.kids) .shared]] [] (.bool r) [] := by
 unfold fC at h
 refine aB true Tryz.func93 rfl (by rw [Tryz.ntmps93]; exact Nat.le_of_ble_eq_true rfl) fun Q hQ t ht => ?_
 conv at ht => whnf
 subst ht
 refine .q fun K1 k1 => ?_
 refine rg 1 ?_
 conv => whnf
 refine k1 _ _ ?_
 refine .q fun K2 k2 => ?_
 refine rg 1 ?_
 conv => whnf
 refine k2 _ _ ?_
 refine .q fun K3 k3 => ?_
 refine rg 0 ?_
 conv => whnf
 obtain ⟨x1, hx1, h⟩ := ob h
 refine dw [1] [] [.ptr 0 0, .agg [.int .i64 p0.kind, .str p0.name, .slice (List.map aC p0.kids) .shared], .int .i64 1, .bool false] [.ptr 1 0, .agg [.int .i64 p0.kind, .str p0.name, .slice (List.map aC p0.kids) .shared], .int .i64 1, .bool false] (wR _ _ _ _ _ _ _ _ hx1) Qp rfl (.cons (rfl) .nil) (by simp; try decide) (.cons (.same _) (.cons (.same _) (.cons (.same _) (.cons (.same _) .nil)))) (rn := .bool x1.1) (rfl) (Hn := [.box [.int .i64 x1.2, .int .i64 16, .int .i64 6]]) ((dN (rfl) rfl)) ?_
 conv => whnf
 refine k3 _ _ ?_
 refine .ret ?_
 conv => whnf
 have e9 := sj h
 subst e9
 refine hQ _ _ _ (aH aI (fun g => rfl) ?_)
 conv => whnf
abbrev qdy (qdc : (List Ty) → Int → Option Int) : Prop := ∀ (p0 : List Ty) (p1 : Int) (r : Int), qdc p0 p1 = some r → aj Tryz.prog 288 [.slice (List.map aC p0) .shared, .func 206 [.ptr 0 0]] [.box [.int .i64 p1]] (.int .i64 r) [.box [.int .i64 p1]]
abbrev qdu (qc8 : (List Ty) → Int → Option Bool) : Prop := ∀ (p0 : List Ty) (p1 : Int) (r : Bool), qc8 p0 p1 = some r → aj Tryz.prog 205 [.slice (List.map aC p0) .shared, .func 206 [.ptr 0 0]] [.box [.int .i64 p1]] (.bool r) [.box [.int .i64 p1]]
abbrev qd8 (qdk : Ty → Int → Option Bool) : Prop := ∀ (p0 : Ty) (p1 : Int) (r : Bool), qdk p0 p1 = some r → aj Tryz.prog 154 [.agg [.int .i64 p0.kind, .str p0.name, .slice (List.map aC p0.kids) .shared], .int .i64 p1] [] (.bool r) []
abbrev qd7 (qdl : Ty → Int → Option Bool) : Prop := ∀ (p0 : Ty) (p1 : Int) (r : Bool), qdl p0 p1 = some r → aj Tryz.prog 206 [.agg [.int .i64 p0.kind, .str p0.name, .slice (List.map aC p0.kids) .shared], .ptr 0 0] [.box [.int .i64 p1]] (.bool r) [.box [.int .i64 p1]]
theorem rZ (n : Nat) (qdc : (List Ty) → Int → Option Int) (qc8 : (List Ty) → Int → Option Bool) (qdk : Ty → Int → Option Bool) (qdl : Ty → Int → Option Bool) (qbp : qdy qdc) (qbn : qdu qc8) (qbt : qd8 qdk) (qbu : qd7 qdl) (p0 : List Ty) (p1 : Int) (r : Int) (h : fB n qdc qc8 qdk qdl p0 p1 = some r) : aj Tryz.prog 288 [.slice (List.map aC p0) .shared, .func 206 [.ptr 0 0]] [.box [.int .i64 p1]] (.int .i64 r) [.box [.int .i64 p1]] := by
 unfold fB at h
 refine aB true Tryz.func288 rfl (by rw [Tryz.ntmps288]; exact Nat.le_of_ble_eq_true rfl) fun Q hQ t ht => ?_
 conv at ht => whnf
 subst ht
 refine .q fun K1 k1 => ?_
 refine rg 0 ?_
 conv => whnf
 refine k1 _ _ ?_
 refine .q fun K2 k2 => ?_
 refine .q fun K3 k3 => ?_
 refine rg 0 ?_
 conv => whnf
 refine aU (l := p0) (f := aC) ?_
 conv => whnf
 refine k3 _ _ ?_
 refine .block ?_
 obtain ⟨o1, ho1, h⟩ := ob h
 have hR1 : ∀ s2 : Unit, o1 = .nx s2 → ∀ t9 h9, Le 1 t9 h9 (u16 (u2 (.unk :: []))) [.box [.int .i64 p1]] → K2 t9 h9 := by
  intro s2 ho
  subst ho
  dsimp only [LR.el] at h
  intro t9 h9 hw
  refine k2 _ _ (AW.le hw ?_)
  refine .q fun K4 k4 => ?_
  refine rg 0 ?_
  conv => whnf
  refine k4 _ _ ?_
  refine .ret ?_
  conv => whnf
  have e9 := sj h
  subst e9
  refine hQ _ _ _ (fF (u4 (.int .i64 (-1) :: (u8 (u4 (u2 []))))) [.box [.int .i64 p1]] (wk [some 0] (.u4 (.c rfl (.u8 (.u4 (.u2 .nil))))) (.b rfl (.c rfl .nil) .nil) rfl) (bP aI [0] rfl (.cons (rfl) .nil) ?_))
  conv => whnf
  first | rfl | (simp; done) | (simp; rfl) | (simp; and_intros <;> rfl)
 refine .loopS (fK n qdc qc8 qdk qdl p0 p1) (fun (s1 : Int) => (.slice (List.map aC p0) .shared :: (.func 206 [.ptr 0 0] :: (u4 (.unk :: (.int .i64 (p0.length : Int) :: (.int .i64 s1 :: (u8 (u2 []))))))))) (fun (s1 : Int) => [.box [.int .i64 p1]]) ho1 (fun _ => rfl) (li (.s (.s (.u4 (.u (.s (.s (.u8 (.u2 .n))))))))) ?_
 intro n1 s1 hs1 KL1 hKL1
 unfold fK at hs1
 refine .q fun K5 k5 => ?_
 refine rg 0 ?_
 conv => whnf
 refine k5 _ _ ?_
 refine .q fun K6 k6 => ?_
 refine .aM rfl hs1 (fun hc1 hs1 => ?_) (fun hc1 hs1 => ?_)
 ·refine .skip ?_
  conv => whnf
  refine k6 _ _ ?_
  refine .q fun K7 k7 => ?_
  refine .block ?_
  refine .q fun K8 k8 => ?_
  refine rg 0 ?_
  conv => whnf
  refine k8 _ _ ?_
  refine .q fun K9 k9 => ?_
  refine rg 0 ?_
  conv => whnf
  obtain ⟨x1, hx1, hs1⟩ := ob hs1
  refine bA (l := p0) (f := aC) (cs := [.int .i64 ((x1).kind), .str ((x1).name), .slice (List.map aC ((x1).kids)) .shared]) hx1 (gX x1) rfl ?_
  conv => whnf
  obtain ⟨x2, hx2, hs1⟩ := ob hs1
  refine dw [0] [] [.agg [.int .i64 x1.kind, .str x1.name, .slice (List.map aC x1.kids) .shared], .ptr 0 0] [.agg [.int .i64 x1.kind, .str x1.name, .slice (List.map aC x1.kids) .shared], .ptr 0 0] (qbu _ _ _ hx2) WG rfl (.cons (rfl) .nil) (by simp; try decide) (.cons (.same _) (.cons (.same _) .nil)) (rn := .bool x2) (rfl) (Hn := [.box [.int .i64 p1]]) ((dN (rfl) rfl)) ?_
  conv => whnf
  refine k9 _ _ ?_
  refine .aM rfl hs1 (fun hc2 hs1 => ?_) (fun hc2 hs1 => ?_)
  ·refine .q fun K10 k10 => ?_
   refine rg 0 ?_
   conv => whnf
   refine k10 _ _ ?_
   refine .ret ?_
   conv => whnf
   have e9 := sj hs1
   subst e9
   dsimp only [LR.el] at h
   have e9 := sj h
   subst e9
   refine hQ _ _ _ (fF (u4 (.int .i64 s1 :: (u8 (u4 (u2 []))))) [.box [.int .i64 p1]] (wk [some 0] (.u4 (.c rfl (.u8 (.u4 (.u2 .nil))))) (.b rfl (.c rfl .nil) .nil) rfl) (bP aI [0] rfl (.cons (rfl) .nil) ?_))
   conv => whnf
   first | rfl | (simp; done) | (simp; rfl) | (simp; and_intros <;> rfl)
  refine .skip ?_
  conv => whnf
  refine k7 _ _ ?_
  refine .know 5 0 fun hv1 => ?_
  refine .know 0 0 fun hv2 => ?_
  refine rg 0 ?_
  conv => whnf
  refine ⟨(s1 + 1), by have := fQ hv1; have := ko hv2; have h8 := of_decide_eq_true hc1; exact bT (by omega) (by omega), ?_⟩
  conv => whnf
  exact hKL1 _ _ _ hs1 (li (.s (.s (.u4 (.u (.s (.s (.u8 (.u2 .n)))))))))
 refine .exit ?_
 conv => whnf
 exact hR1 _ (sj hs1).symm _ _ (li (.u16 (.u2 (.u .n))))
theorem qy (n : Nat) (qdc : (List Ty) → Int → Option Int) (qc8 : (List Ty) → Int → Option Bool) (qdk : Ty → Int → Option Bool) (qdl : Ty → Int → Option Bool) (qbp : qdy qdc) (qbn : qdu qc8) (qbt : qd8 qdk) (qbu : qd7 qdl) (p0 : List Ty) (p1 : Int) (r : Bool) (h : dY n qdc qc8 qdk qdl p0 p1 = some r) : aj Tryz.prog 205 [.slice (List.map aC p0) .shared, .func 206 [.ptr 0 0]] [.box [.int .i64 p1]] (.bool r) [.box [.int .i64 p1]] := by
 unfold dY at h
 refine aB true Tryz.func205 rfl (by rw [Tryz.ntmps205]; exact Nat.le_of_ble_eq_true rfl) fun Q hQ t ht => ?_
 conv at ht => whnf
 subst ht
 refine .q fun K1 k1 => ?_
 refine rg 0 ?_
 conv => whnf
 refine k1 _ _ ?_
 refine .q fun K2 k2 => ?_
 refine rg 0 ?_
 conv => whnf
 obtain ⟨x1, hx1, h⟩ := ob h
 refine dw [0] [] [.slice (List.map aC p0) .shared, .func 206 [.ptr 0 0]] [.slice (List.map aC p0) .shared, .func 206 [.ptr 0 0]] (qbp _ _ _ hx1) QU rfl (.cons (rfl) .nil) (by simp; try decide) (.cons (.same _) (.cons (.same _) .nil)) (rn := .int .i64 x1) (rfl) (Hn := [.box [.int .i64 p1]]) ((dN (rfl) rfl)) ?_
 conv => whnf
 refine k2 _ _ ?_
 refine .ret ?_
 conv => whnf
 have e9 := sj h
 subst e9
 refine hQ _ _ _ (fF (u4 (.bool (decide (0 ≤ x1)) :: (u4 []))) [.box [.int .i64 p1]] (wk [some 0] (.u4 (.c rfl (.u4 .nil))) (.b rfl (.c rfl .nil) .nil) rfl) (bP aI [0] rfl (.cons (rfl) .nil) ?_))
 conv => whnf
 first | rfl | (simp; done) | (simp; rfl) | (simp; and_intros <;> rfl)
theorem xZ (n : Nat) (qdc : (List Ty) → Int → Option Int) (qc8 : (List Ty) → Int → Option Bool) (qdk : Ty → Int → Option Bool) (qdl : Ty → Int → Option Bool) (qbp : qdy qdc) (qbn : qdu qc8) (qbt : qd8 qdk) (qbu : qd7 qdl) (p0 : Ty) (p1 : Int) (r : Bool) (h : jo n qdc qc8 qdk qdl p0 p1 = some r) : aj Tryz.prog 154 [.agg [.int .i64 p0.kind, .str p0.name, .slice (List.map aC p0.kids) .shared], .int .i64 p1] [] (.bool r) [] := by
 unfold jo at h
 refine aB true Tryz.func154 rfl (by rw [Tryz.ntmps154]; exact Nat.le_of_ble_eq_true rfl) fun Q hQ t ht => ?_
 conv at ht => whnf
 subst ht
 refine .q fun K1 k1 => ?_
 refine rg 2 ?_
 conv => whnf
 refine k1 _ _ ?_
 refine .q fun K2 k2 => ?_
 obtain ⟨s1, hj1, h⟩ := ob h
 have hR1 : ∀ t9 h9, Le 0 t9 h9 (u4 (.bool s1 :: (u8 (u2 [])))) [] → K2 t9 h9 := by
  intro t9 h9 hw
  refine k2 _ _ (AW.le hw ?_)
  clear hw
  refine .ret ?_
  conv => whnf
  have e9 := sj h
  subst e9
  refine hQ _ _ _ (aH aI (fun g => rfl) ?_)
  conv => whnf
 refine rg 0 ?_
 conv => whnf
 refine aD hj1 (fun hc1 hj1 => ?_) (fun hc1 hj1 => ?_)
 ·conv => whnf
  cases hj1
  exact hR1 _ _ (wk [] (.u4 (.c rfl (.u8 (.u2 .nil)))) .nil rfl)
 conv => whnf
 obtain ⟨x1, hx1, hj1⟩ := ob hj1
 refine dw [1] [] [.slice (List.map aC p0.kids) .shared, .func 206 [.ptr 0 0]] [.slice (List.map aC p0.kids) .shared, .func 206 [.ptr 1 0]] (qbn _ _ _ hx1) QZ rfl (.cons (rfl) .nil) (by simp; try decide) (.cons (.same _) (.cons (.same _) .nil)) (rn := .bool x1) (rfl) (Hn := [.box [.int .i64 p1]]) ((dN (rfl) rfl)) ?_
 conv => whnf
 cases hj1
 exact hR1 _ _ (wk [] (.u4 (.c rfl (.u8 (.u2 .nil)))) .nil rfl)
theorem vW (n : Nat) (qdc : (List Ty) → Int → Option Int) (qc8 : (List Ty) → Int → Option Bool) (qdk : Ty → Int → Option Bool) (qdl : Ty → Int → Option Bool) (qbp : qdy qdc) (qbn : qdu qc8) (qbt : qd8 qdk) (qbu : qd7 qdl) (p0 : Ty) (p1 : Int) (r : Bool) (h : iH n qdc qc8 qdk qdl p0 p1 = some r) : aj Tryz.prog 206 [.agg [.int .i64 p0.kind, .str p0.name, .slice (List.map aC p0.kids) .shared], .ptr 0 0] [.box [.int .i64 p1]] (.bool r) [.box [.int .i64 p1]] := by
 unfold iH at h
 refine aB true Tryz.func206 rfl (by rw [Tryz.ntmps206]; exact Nat.le_of_ble_eq_true rfl) fun Q hQ t ht => ?_
 conv at ht => whnf
 subst ht
 refine .q fun K1 k1 => ?_
 refine rg 1 ?_
 conv => whnf
 refine k1 _ _ ?_
 refine .q fun K2 k2 => ?_
 refine rg 0 ?_
 conv => whnf
 obtain ⟨x1, hx1, h⟩ := ob h
 refine aJ (qbt _ _ _ hx1) QW (.cons (.same _) (.cons (.same _) .nil)) (fun g => by simp) (fun g => rfl) ?_
 conv => whnf
 refine k2 _ _ ?_
 refine .ret ?_
 conv => whnf
 have e9 := sj h
 subst e9
 refine hQ _ _ _ (fF (u2 (.unk :: (.bool x1 :: (u2 (.unk :: []))))) [.box [.int .i64 p1]] (wk [some 0] (.u2 (.u (.c rfl (.u2 (.u .nil))))) (.b rfl (.c rfl .nil) .nil) rfl) (bP aI [0] rfl (.cons (rfl) .nil) ?_))
 conv => whnf
 first | rfl | (simp; done) | (simp; rfl) | (simp; and_intros <;> rfl)
theorem iB (n : Nat) : qdy (dM n) ∧ qdu (bS n) ∧ qd8 (eO n) ∧ qd7 (dX n) := by
 induction n with
 | zero => exact ⟨(fun p0 p1 r h => by unfold dM at h; cases h), (fun p0 p1 r h => by unfold bS at h; cases h), (fun p0 p1 r h => by unfold eO at h; cases h), (fun p0 p1 r h => by unfold dX at h; cases h)⟩
 | succ n ih =>
  exact ⟨(fun p0 p1 r h => rZ n _ _ _ _ ih.1 ih.2.1 ih.2.2.1 ih.2.2.2 p0 p1 r (by unfold dM at h; exact h)), (fun p0 p1 r h => qy n _ _ _ _ ih.1 ih.2.1 ih.2.2.1 ih.2.2.2 p0 p1 r (by unfold bS at h; exact h)), (fun p0 p1 r h => xZ n _ _ _ _ ih.1 ih.2.1 ih.2.2.1 ih.2.2.2 p0 p1 r (by unfold eO at h; exact h)), (fun p0 p1 r h => vW n _ _ _ _ ih.1 ih.2.1 ih.2.2.1 ih.2.2.2 p0 p1 r (by unfold dX at h; exact h))⟩
theorem BU (n : Nat) : qd8 (eO n) := (iB n).2.2.1
theorem Bc (n : Nat) (p0 : Ty) (r : Bool) (h : gq n p0 = some r) : aj Tryz.prog 89 [.agg [.int .i64 p0.kind, .str p0.name, .slice (List.map aC p0.kids) .shared]] [] (.bool r) [] := by
 unfold gq at h
 refine aB true Tryz.func89 rfl (by rw [Tryz.ntmps89]; exact Nat.le_of_ble_eq_true rfl) fun Q hQ t ht => ?_
 conv at ht => whnf
 subst ht
 refine .q fun K1 k1 => ?_
 refine rg 1 ?_
 conv => whnf
 refine k1 _ _ ?_
 refine .q fun K2 k2 => ?_
 obtain ⟨s1, hj1, h⟩ := ob h
 have hR1 : ∀ t9 h9, Le 0 t9 h9 (u2 (.bool s1 :: (u4 (u2 (.unk :: []))))) [] → K2 t9 h9 := by
  intro t9 h9 hw
  refine k2 _ _ (AW.le hw ?_)
  clear hw
  refine .ret ?_
  conv => whnf
  have e9 := sj h
  subst e9
  refine hQ _ _ _ (aH aI (fun g => rfl) ?_)
  conv => whnf
 refine rg 0 ?_
 conv => whnf
 obtain ⟨x1, hx1, hj1⟩ := ob hj1
 refine aJ (qF _ _ _ hx1) MP (.cons (.same _) .nil) (fun g => by simp) (fun g => rfl) ?_
 conv => whnf
 refine aD hj1 (fun hc1 hj1 => ?_) (fun hc1 hj1 => ?_)
 ·conv => whnf
  obtain ⟨x2, hx2, hj1⟩ := ob hj1
  refine aJ (BU _ _ _ _ hx2) QW (.cons (.same _) (.cons (.same _) .nil)) (fun g => by simp) (fun g => rfl) ?_
  conv => whnf
  cases hj1
  exact hR1 _ _ (wk [] (.u2 (.c rfl (.u4 (.u2 (.u .nil))))) .nil rfl)
 conv => whnf
 cases hj1
 exact hR1 _ _ (wk [] (.u2 (.c rfl (.u4 (.u2 (.u .nil))))) .nil rfl)
abbrev qd6 (qdj : Ty → (List (Str × Bool)) → Option (List (Str × Bool))) : Prop := ∀ (p0 : Ty) (p1 : List (Str × Bool)) (r : List (Str × Bool)), qdj p0 p1 = some r → aj Tryz.prog 159 [.agg [.int .i64 p0.kind, .str p0.name, .slice (List.map aC p0.kids) .shared], .mapr 0] [.mp (List.map (fun p => (p.1, (fun (x : Bool) => .bool x) p.2)) p1)] (.tup []) [.mp (List.map (fun p => (p.1, (fun (x : Bool) => .bool x) p.2)) r)]
theorem zh (n : Nat) (qdj : Ty → (List (Str × Bool)) → Option (List (Str × Bool))) (qbs : qd6 qdj) (p0 : Ty) (p1 : List (Str × Bool)) (r : List (Str × Bool)) (h : jW n qdj p0 p1 = some r) : aj Tryz.prog 159 [.agg [.int .i64 p0.kind, .str p0.name, .slice (List.map aC p0.kids) .shared], .mapr 0] [.mp (List.map (fun p => (p.1, (fun (x : Bool) => .bool x) p.2)) p1)] (.tup []) [.mp (List.map (fun p => (p.1, (fun (x : Bool) => .bool x) p.2)) r)] := by
 unfold jW at h
 refine aB true Tryz.func159 rfl (by rw [Tryz.ntmps159]; exact Nat.le_of_ble_eq_true rfl) fun Q hQ t ht => ?_
 conv at ht => whnf
 subst ht
 refine .q fun K1 k1 => ?_
 refine rg 1 ?_
 conv => whnf
 refine k1 _ _ ?_
 refine .q fun K2 k2 => ?_
 obtain ⟨s1, hj1, h⟩ := ob h
 have hR1 : ∀ t9 h9, Le 1 t9 h9 (.unk :: (.mapr 0 :: (.ptr 1 0 :: (u16 (u4 []))))) [.mp (List.map (fun p => (p.1, (fun (x : Bool) => .bool x) p.2)) s1), .box [.int .i64 p0.kind, .str p0.name, .slice (List.map aC p0.kids) .shared]] → K2 t9 h9 := by
  intro t9 h9 hw
  refine k2 _ _ (AW.le hw ?_)
  clear hw
  refine .q fun K3 k3 => ?_
  refine rg 0 ?_
  conv => whnf
  refine aU (l := p0.kids) (f := aC) ?_
  conv => whnf
  refine k3 _ _ ?_
  refine .block ?_
  obtain ⟨o1, ho1, h⟩ := ob h
  have hR2 : ∀ s3 : List (Str × Bool), o1 = .nx s3 → ∀ t9 h9, Le 1 t9 h9 (u16 (u4 (u2 (.unk :: [])))) [.mp (List.map (fun p => (p.1, (fun (x : Bool) => .bool x) p.2)) s3)] → Q .normal t9 h9 := by
   intro s3 ho
   subst ho
   dsimp only [LR.el] at h
   intro t9 h9 hw
   have e9 := sj h
   subst e9
   refine hQ _ _ _ (fF (u16 (u4 (u2 (.unk :: [])))) [.mp (List.map (fun p => (p.1, (fun (x : Bool) => .bool x) p.2)) s3)] (hw.trans (wk [some 0] (.u16 (.u4 (.u2 (.u .nil)))) (.old (.same rfl (congrArg AObj.mp (uH (f := (fun (x : Bool) => .bool x)) (fun g x => rfl) _ _))) .nil) rfl)) (bP aI [0] rfl (.cons (congrArg AObj.mp (uH (f := (fun (x : Bool) => .bool x)) (fun g x => rfl) _ _)) .nil) ?_))
   conv => whnf
   first | rfl | (simp; done) | (simp; rfl) | (simp; and_intros <;> rfl)
  refine .loopS (jL n qdj p0) (fun (s2 : Int × (List (Str × Bool))) => (.unk :: (.mapr 0 :: (u8 (u2 (.unk :: (.slice (List.map aC p0.kids) .shared :: (.int .i64 (p0.kids.length : Int) :: (.int .i64 s2.1 :: (u4 (u2 (.unk :: [])))))))))))) (fun (s2 : Int × (List (Str × Bool))) => [.mp (List.map (fun p => (p.1, (fun (x : Bool) => .bool x) p.2)) s2.2)]) ho1 (fun _ => rfl) (wk [some 0] (.u (.c rfl (.u8 (.u2 (.u (.e bq (.c rfl (.c rfl (.u4 (.u2 (.u .nil))))))))))) (.old (.same rfl (congrArg AObj.mp (uH (f := (fun (x : Bool) => .bool x)) (fun g x => rfl) _ _))) .nil) rfl) ?_
  intro n1 s2 hs1 KL1 hKL1
  unfold jL at hs1
  refine .q fun K4 k4 => ?_
  refine rg 0 ?_
  conv => whnf
  refine k4 _ _ ?_
  refine .q fun K5 k5 => ?_
  refine .aM rfl hs1 (fun hc1 hs1 => ?_) (fun hc1 hs1 => ?_)
  ·refine .skip ?_
   conv => whnf
   refine k5 _ _ ?_
   refine .q fun K6 k6 => ?_
   refine .block ?_
   refine .q fun K7 k7 => ?_
   refine rg 1 ?_
   conv => whnf
   obtain ⟨x1, hx1, hs1⟩ := ob hs1
   refine bA (l := p0.kids) (f := aC) (cs := [.int .i64 ((x1).kind), .str ((x1).name), .slice (List.map aC ((x1).kids)) .shared]) hx1 (gX x1) rfl ?_
   conv => whnf
   refine k7 _ _ ?_
   refine rg 0 ?_
   conv => whnf
   obtain ⟨x2, hx2, hs1⟩ := ob hs1
   refine dw [0] [] [.agg [.int .i64 x1.kind, .str x1.name, .slice (List.map aC x1.kids) .shared], .mapr 0] [.agg [.int .i64 x1.kind, .str x1.name, .slice (List.map aC x1.kids) .shared], .mapr 0] (qbs _ _ _ hx2) QY rfl (.cons (congrArg AObj.mp (uH (f := (fun (x : Bool) => .bool x)) (fun g x => rfl) _ _)) .nil) (by simp; try decide) (.cons (.same _) (.cons (.same _) .nil)) (rn := .tup []) (rfl) (Hn := [.mp (List.map (fun p => (p.1, (fun (x : Bool) => .bool x) p.2)) x2)]) ((dN (congrArg AObj.mp (uH (f := (fun (x : Bool) => .bool x)) (fun g x => rfl) _ _)) rfl)) ?_
   conv => whnf
   refine k6 _ _ ?_
   refine .know 15 0 fun hv1 => ?_
   refine .know 13 0 fun hv2 => ?_
   refine rg 0 ?_
   conv => whnf
   refine ⟨(s2.1 + 1), by have := fQ hv1; have := ko hv2; have h8 := of_decide_eq_true hc1; exact bT (by omega) (by omega), ?_⟩
   conv => whnf
   exact hKL1 _ _ _ hs1 (wk [some 0] (.u (.c rfl (.u8 (.u2 (.u (.e bq (.c rfl (.c rfl (.u4 (.u2 (.u .nil))))))))))) (.old (.same rfl (congrArg AObj.mp (uH (f := (fun (x : Bool) => .bool x)) (fun g x => rfl) _ _))) .nil) rfl)
  refine .exit ?_
  conv => whnf
  exact hR2 _ (sj hs1).symm _ _ (li (.u16 (.u4 (.u2 (.u .n)))))
 refine .q fun K8 k8 => ?_
 refine rg 0 ?_
 conv => whnf
 refine k8 _ _ ?_
 refine .aM rfl hj1 (fun hc2 hj1 => ?_) (fun hc2 hj1 => ?_)
 ·refine rg 0 ?_
  conv => whnf
  obtain ⟨x3, hx3, hj1⟩ := ob hj1
  refine Tg (m := p1) (f := (fun (x : Bool) => .bool x)) hx3 rfl ?_
  conv => whnf
  cases hj1
  exact hR1 _ _ (li (.u (.s (.s (.u16 (.u4 .n))))))
 refine .skip ?_
 conv => whnf
 cases hj1
 exact hR1 _ _ (li (.u (.s (.s (.u16 (.u4 .n))))))
theorem DY (n : Nat) : qd6 (fU n) := by
 induction n with
 | zero => exact (fun p0 p1 r h => by unfold fU at h; cases h)
 | succ n ih =>
  exact (fun p0 p1 r h => zh n _ ih p0 p1 r (by unfold fU at h; exact h))
theorem Ew (n : Nat) : qd6 (fU n) := (DY n)
theorem uX (n : Nat) (p0 : Ty) (r : List Str) (h : iA n p0 = some r) : aj Tryz.prog 95 [.agg [.int .i64 p0.kind, .str p0.name, .slice (List.map aC p0.kids) .shared]] [] (.slice (List.map encS r) .shared) [] := by
 unfold iA at h
 refine aB true Tryz.func95 rfl (by rw [Tryz.ntmps95]; exact Nat.le_of_ble_eq_true rfl) fun Q hQ t ht => ?_
 conv at ht => whnf
 subst ht
 refine .q fun K1 k1 => ?_
 refine rg 1 ?_
 conv => whnf
 refine k1 _ _ ?_
 refine .q fun K2 k2 => ?_
 refine .q fun K3 k3 => ?_
 refine rg 0 ?_
 conv => whnf
 obtain ⟨x1, hx1, h⟩ := ob h
 refine aJ (qF _ _ _ hx1) MP (.cons (.same _) .nil) (fun g => by simp) (fun g => rfl) ?_
 conv => whnf
 refine k3 _ _ ?_
 refine .aM rfl h (fun hc1 h => ?_) (fun hc1 h => ?_)
 ·refine .q fun K4 k4 => ?_
  refine rg 0 ?_
  conv => whnf
  refine k4 _ _ ?_
  refine .ret ?_
  conv => whnf
  have e9 := sj h
  subst e9
  refine hQ _ _ _ (aH aI (fun g => by simp) ?_)
  conv => whnf
  try rfl
 refine .skip ?_
 conv => whnf
 refine k2 _ _ ?_
 refine .q fun K5 k5 => ?_
 refine rg 1 ?_
 conv => whnf
 refine k5 _ _ ?_
 refine .q fun K6 k6 => ?_
 refine rg 0 ?_
 conv => whnf
 obtain ⟨x2, hx2, h⟩ := ob h
 refine dw [1] [] [.agg [.int .i64 p0.kind, .str p0.name, .slice (List.map aC p0.kids) .shared], .mapr 0] [.agg [.int .i64 p0.kind, .str p0.name, .slice (List.map aC p0.kids) .shared], .mapr 1] (Ew _ _ _ _ hx2) QY rfl (.cons (congrArg AObj.mp (uH (f := (fun (x : Bool) => .bool x)) (fun g x => rfl) _ _)) .nil) (by simp; try decide) (.cons (.same _) (.cons (.same _) .nil)) (rn := .tup []) (rfl) (Hn := [.mp (List.map (fun p => (p.1, (fun (x : Bool) => .bool x) p.2)) x2)]) ((dN (congrArg AObj.mp (uH (f := (fun (x : Bool) => .bool x)) (fun g x => rfl) _ _)) rfl)) ?_
 conv => whnf
 refine k6 _ _ ?_
 refine .q fun K7 k7 => ?_
 refine rg 1 ?_
 conv => whnf
 refine dw [1] [2] [.mapr 0] [.mapr 1] (Er 0 x2 _ rfl) Xi rfl (.cons (congrArg AObj.mp (uH (f := (fun (x : Bool) => .bool x)) (fun g x => rfl) _ _)) .nil) (by simp; try decide) (.cons (.same _) .nil) (rn := .func 212 [.ptr 2 0]) (by simp; try decide) (Hn := [.mp (List.map (fun p => (p.1, (fun (x : Bool) => .bool x) p.2)) x2), .box [.mapr 1]]) ((dN (congrArg AObj.mp (uH (f := (fun (x : Bool) => .bool x)) (fun g x => rfl) _ _)) (dN rfl rfl))) ?_
 conv => whnf
 obtain ⟨x3, hx3, h⟩ := ob h
 refine dw [1, 2] [] [.func 212 [.ptr 1 0]] [.func 212 [.ptr 2 0]] (yh _ _ _ hx3) XT rfl (.cons (congrArg AObj.mp (uH (f := (fun (x : Bool) => .bool x)) (fun g x => rfl) _ _)) (.cons rfl .nil)) (by simp; try decide) (.cons (.same _) .nil) (rn := .slice (List.map encS x3) .shared) (by simp; try decide) (Hn := [.mp (List.map (fun p => (p.1, (fun (x : Bool) => .bool x) p.2)) x2), .box [.mapr 1]]) ((dN (congrArg AObj.mp (uH (f := (fun (x : Bool) => .bool x)) (fun g x => rfl) _ _)) (dN rfl rfl))) ?_
 conv => whnf
 refine k7 _ _ ?_
 refine .ret ?_
 conv => whnf
 have e9 := sj h
 subst e9
 refine hQ _ _ _ (aH aI (fun g => by simp) ?_)
 conv => whnf
 try rfl
theorem y9 (n : Nat) (p0 : Carrier) (p1 : Str) (r : Bool) (h : tV n p0 p1 = some r) : aj Tryz.prog 208 [.agg [.str p0.name, .slice (List.map encS p0.elems) .shared], .ptr 0 0] [.box [.str p1]] (.bool r) [.box [.str p1]] := by
 unfold tV at h
 refine aB true Tryz.func208 rfl (by rw [Tryz.ntmps208]; exact Nat.le_of_ble_eq_true rfl) fun Q hQ t ht => ?_
 conv at ht => whnf
 subst ht
 refine .q fun K1 k1 => ?_
 refine rg 1 ?_
 conv => whnf
 refine k1 _ _ ?_
 refine .q fun K2 k2 => ?_
 refine rg 0 ?_
 conv => whnf
 refine k2 _ _ ?_
 refine .ret ?_
 conv => whnf
 have e9 := sj h
 subst e9
 refine hQ _ _ _ (fF (u2 (.unk :: (.bool (p0.name == p1) :: (u4 [])))) [.box [.str p1]] (wk [some 0] (.u2 (.u (.c rfl (.u4 .nil)))) (.b rfl (.c rfl .nil) .nil) rfl) (bP aI [0] rfl (.cons (rfl) .nil) ?_))
 conv => whnf
 first | rfl | (simp; done) | (simp; rfl) | (simp; and_intros <;> rfl)
theorem u6 (n : Nat) (p0 : List Carrier) (p1 : Str) (r : Int) (h : jw n p0 p1 = some r) : aj Tryz.prog 119 [.slice (List.map ah p0) .shared, .func 208 [.ptr 0 0]] [.box [.str p1]] (.int .i64 r) [.box [.str p1]] := by
 unfold jw at h
 refine aB true Tryz.func119 rfl (by rw [Tryz.ntmps119]; exact Nat.le_of_ble_eq_true rfl) fun Q hQ t ht => ?_
 conv at ht => whnf
 subst ht
 refine .q fun K1 k1 => ?_
 refine rg 0 ?_
 conv => whnf
 refine k1 _ _ ?_
 refine .q fun K2 k2 => ?_
 refine .q fun K3 k3 => ?_
 refine rg 0 ?_
 conv => whnf
 refine aU (l := p0) (f := ah) ?_
 conv => whnf
 refine k3 _ _ ?_
 refine .block ?_
 obtain ⟨o1, ho1, h⟩ := ob h
 have hR1 : ∀ s2 : Unit, o1 = .nx s2 → ∀ t9 h9, Le 1 t9 h9 (u16 (u2 (.unk :: []))) [.box [.str p1]] → K2 t9 h9 := by
  intro s2 ho
  subst ho
  dsimp only [LR.el] at h
  intro t9 h9 hw
  refine k2 _ _ (AW.le hw ?_)
  refine .q fun K4 k4 => ?_
  refine rg 0 ?_
  conv => whnf
  refine k4 _ _ ?_
  refine .ret ?_
  conv => whnf
  have e9 := sj h
  subst e9
  refine hQ _ _ _ (fF (u4 (.int .i64 (-1) :: (u8 (u4 (u2 []))))) [.box [.str p1]] (wk [some 0] (.u4 (.c rfl (.u8 (.u4 (.u2 .nil))))) (.b rfl (.c rfl .nil) .nil) rfl) (bP aI [0] rfl (.cons (rfl) .nil) ?_))
  conv => whnf
  first | rfl | (simp; done) | (simp; rfl) | (simp; and_intros <;> rfl)
 refine .loopS (fG n p0 p1) (fun (s1 : Int) => (.slice (List.map ah p0) .shared :: (.func 208 [.ptr 0 0] :: (u4 (.unk :: (.int .i64 (p0.length : Int) :: (.int .i64 s1 :: (u8 (u2 []))))))))) (fun (s1 : Int) => [.box [.str p1]]) ho1 (fun _ => rfl) (li (.s (.s (.u4 (.u (.s (.s (.u8 (.u2 .n))))))))) ?_
 intro n1 s1 hs1 KL1 hKL1
 unfold fG at hs1
 refine .q fun K5 k5 => ?_
 refine rg 0 ?_
 conv => whnf
 refine k5 _ _ ?_
 refine .q fun K6 k6 => ?_
 refine .aM rfl hs1 (fun hc1 hs1 => ?_) (fun hc1 hs1 => ?_)
 ·refine .skip ?_
  conv => whnf
  refine k6 _ _ ?_
  refine .q fun K7 k7 => ?_
  refine .block ?_
  refine .q fun K8 k8 => ?_
  refine rg 0 ?_
  conv => whnf
  refine k8 _ _ ?_
  refine .q fun K9 k9 => ?_
  refine rg 0 ?_
  conv => whnf
  obtain ⟨x1, hx1, hs1⟩ := ob hs1
  refine bA (l := p0) (f := ah) (cs := [.str ((x1).name), .slice (List.map encS ((x1).elems)) .shared]) hx1 (rfl) rfl ?_
  conv => whnf
  refine dw [0] [] [.agg [.str x1.name, .slice (List.map encS x1.elems) .shared], .ptr 0 0] [.agg [.str x1.name, .slice (List.map encS x1.elems) .shared], .ptr 0 0] (y9 0 x1 p1 _ rfl) XO rfl (.cons (rfl) .nil) (by simp; try decide) (.cons (.same _) (.cons (.same _) .nil)) (rn := .bool (x1.name == p1)) (rfl) (Hn := [.box [.str p1]]) ((dN (rfl) rfl)) ?_
  conv => whnf
  refine k9 _ _ ?_
  refine .aM rfl hs1 (fun hc2 hs1 => ?_) (fun hc2 hs1 => ?_)
  ·refine .q fun K10 k10 => ?_
   refine rg 0 ?_
   conv => whnf
   refine k10 _ _ ?_
   refine .ret ?_
   conv => whnf
   have e9 := sj hs1
   subst e9
   dsimp only [LR.el] at h
   have e9 := sj h
   subst e9
   refine hQ _ _ _ (fF (u4 (.int .i64 s1 :: (u8 (u4 (u2 []))))) [.box [.str p1]] (wk [some 0] (.u4 (.c rfl (.u8 (.u4 (.u2 .nil))))) (.b rfl (.c rfl .nil) .nil) rfl) (bP aI [0] rfl (.cons (rfl) .nil) ?_))
   conv => whnf
   first | rfl | (simp; done) | (simp; rfl) | (simp; and_intros <;> rfl)
  refine .skip ?_
  conv => whnf
  refine k7 _ _ ?_
  refine .know 5 0 fun hv1 => ?_
  refine .know 0 0 fun hv2 => ?_
  refine rg 0 ?_
  conv => whnf
  refine ⟨(s1 + 1), by have := fQ hv1; have := ko hv2; have h8 := of_decide_eq_true hc1; exact bT (by omega) (by omega), ?_⟩
  conv => whnf
  exact hKL1 _ _ _ hs1 (li (.s (.s (.u4 (.u (.s (.s (.u8 (.u2 .n)))))))))
 refine .exit ?_
 conv => whnf
 exact hR1 _ (sj hs1).symm _ _ (li (.u16 (.u2 (.u .n))))
theorem sD (n : Nat) (p0 : List Carrier) (p1 : Str) (r : Bool) (h : iw n p0 p1 = some r) : aj Tryz.prog 207 [.slice (List.map ah p0) .shared, .func 208 [.ptr 0 0]] [.box [.str p1]] (.bool r) [.box [.str p1]] := by
 unfold iw at h
 refine aB true Tryz.func207 rfl (by rw [Tryz.ntmps207]; exact Nat.le_of_ble_eq_true rfl) fun Q hQ t ht => ?_
 conv at ht => whnf
 subst ht
 refine .q fun K1 k1 => ?_
 refine rg 0 ?_
 conv => whnf
 refine k1 _ _ ?_
 refine .q fun K2 k2 => ?_
 refine rg 0 ?_
 conv => whnf
 obtain ⟨x1, hx1, h⟩ := ob h
 refine dw [0] [] [.slice (List.map ah p0) .shared, .func 208 [.ptr 0 0]] [.slice (List.map ah p0) .shared, .func 208 [.ptr 0 0]] (u6 _ _ _ _ hx1) Qx rfl (.cons (rfl) .nil) (by simp; try decide) (.cons (.same _) (.cons (.same _) .nil)) (rn := .int .i64 x1) (rfl) (Hn := [.box [.str p1]]) ((dN (rfl) rfl)) ?_
 conv => whnf
 refine k2 _ _ ?_
 refine .ret ?_
 conv => whnf
 have e9 := sj h
 subst e9
 refine hQ _ _ _ (fF (u4 (.bool (decide (0 ≤ x1)) :: (u4 []))) [.box [.str p1]] (wk [some 0] (.u4 (.c rfl (.u4 .nil))) (.b rfl (.c rfl .nil) .nil) rfl) (bP aI [0] rfl (.cons (rfl) .nil) ?_))
 conv => whnf
 first | rfl | (simp; done) | (simp; rfl) | (simp; and_intros <;> rfl)
theorem AY (n : Nat) (p0 : Env) (p1 : Str) (r : Bool) (h : lg n p0 p1 = some r) : aj Tryz.prog 156 [.agg [.slice (List.map ah p0.carriers) .shared, .slice (List.map aA p0.names) .shared], .str p1] [] (.bool r) [] := by
 unfold lg at h
 refine aB true Tryz.func156 rfl (by rw [Tryz.ntmps156]; exact Nat.le_of_ble_eq_true rfl) fun Q hQ t ht => ?_
 conv at ht => whnf
 subst ht
 refine .q fun K1 k1 => ?_
 refine rg 2 ?_
 conv => whnf
 refine k1 _ _ ?_
 refine .q fun K2 k2 => ?_
 refine rg 0 ?_
 conv => whnf
 obtain ⟨x1, hx1, h⟩ := ob h
 refine dw [1] [] [.slice (List.map ah p0.carriers) .shared, .func 208 [.ptr 0 0]] [.slice (List.map ah p0.carriers) .shared, .func 208 [.ptr 1 0]] (sD _ _ _ _ hx1) XU rfl (.cons (rfl) .nil) (by simp; try decide) (.cons (.same _) (.cons (.same _) .nil)) (rn := .bool x1) (rfl) (Hn := [.box [.str p1]]) ((dN (rfl) rfl)) ?_
 conv => whnf
 refine k2 _ _ ?_
 refine .ret ?_
 conv => whnf
 have e9 := sj h
 subst e9
 refine hQ _ _ _ (aH aI (fun g => rfl) ?_)
 conv => whnf
theorem Au (n : Nat) (p0 : Str) (p1 : List Carrier) (p2 : List Decl) (r : Bool) (h : lG n p0 p1 p2 = some r) : aj Tryz.prog 155 [.str p0, .ptr 0 0] [.box [.slice (List.map ah p1) .shared, .slice (List.map aA p2) .shared]] (.bool r) [.box [.slice (List.map ah p1) .shared, .slice (List.map aA p2) .shared]] := by
 unfold lG at h
 refine aB true Tryz.func155 rfl (by rw [Tryz.ntmps155]; exact Nat.le_of_ble_eq_true rfl) fun Q hQ t ht => ?_
 conv at ht => whnf
 subst ht
 refine .q fun K1 k1 => ?_
 refine rg 0 ?_
 conv => whnf
 refine k1 _ _ ?_
 refine .q fun K2 k2 => ?_
 refine rg 0 ?_
 conv => whnf
 obtain ⟨x1, hx1, h⟩ := ob h
 refine aJ (AY _ _ _ _ hx1) X0 (.cons (.same _) (.cons (.same _) .nil)) (fun g => by simp) (fun g => rfl) ?_
 conv => whnf
 refine k2 _ _ ?_
 refine .ret ?_
 conv => whnf
 have e9 := sj h
 subst e9
 refine hQ _ _ _ (fF (u2 (.unk :: (.bool (!x1) :: (u4 [])))) [.box [.slice (List.map ah p1) .shared, .slice (List.map aA p2) .shared]] (wk [some 0] (.u2 (.u (.c rfl (.u4 .nil)))) (.b rfl (.e aF (.e aN .nil)) .nil) rfl) (bP aI [0] rfl (.cons (by simp only [bH, ren, aZ, aV, bX, bD, bB, bf, bK, bq, bJ, aF, aN, aR, aO, au, aP]; try rfl) .nil) ?_))
 conv => whnf
 first | rfl | (simp; done) | (simp; rfl) | (simp; and_intros <;> rfl)
theorem vI (n : Nat) (p0 : List Str) (p1 : List Carrier) (p2 : List Decl) (r : Int) (h : jS n p0 p1 p2 = some r) : aj Tryz.prog 158 [.slice (List.map encS p0) .shared, .func 155 [.ptr 0 0]] [.box [.slice (List.map ah p1) .shared, .slice (List.map aA p2) .shared]] (.int .i64 r) [.box [.slice (List.map ah p1) .shared, .slice (List.map aA p2) .shared]] := by
 unfold jS at h
 refine aB true Tryz.func158 rfl (by rw [Tryz.ntmps158]; exact Nat.le_of_ble_eq_true rfl) fun Q hQ t ht => ?_
 conv at ht => whnf
 subst ht
 refine .q fun K1 k1 => ?_
 refine rg 0 ?_
 conv => whnf
 refine k1 _ _ ?_
 refine .q fun K2 k2 => ?_
 refine .q fun K3 k3 => ?_
 refine rg 0 ?_
 conv => whnf
 refine aU (l := p0) (f := encS) ?_
 conv => whnf
 refine k3 _ _ ?_
 refine .block ?_
 obtain ⟨o1, ho1, h⟩ := ob h
 have hR1 : ∀ s2 : Unit, o1 = .nx s2 → ∀ t9 h9, Le 1 t9 h9 (u16 (u2 (.unk :: []))) [.box [.slice (List.map ah p1) .shared, .slice (List.map aA p2) .shared]] → K2 t9 h9 := by
  intro s2 ho
  subst ho
  dsimp only [LR.el] at h
  intro t9 h9 hw
  refine k2 _ _ (AW.le hw ?_)
  refine .q fun K4 k4 => ?_
  refine rg 0 ?_
  conv => whnf
  refine k4 _ _ ?_
  refine .ret ?_
  conv => whnf
  have e9 := sj h
  subst e9
  refine hQ _ _ _ (fF (u4 (.int .i64 (-1) :: (u8 (u4 (u2 []))))) [.box [.slice (List.map ah p1) .shared, .slice (List.map aA p2) .shared]] (wk [some 0] (.u4 (.c rfl (.u8 (.u4 (.u2 .nil))))) (.b rfl (.e aF (.e aN .nil)) .nil) rfl) (bP aI [0] rfl (.cons (by simp only [bH, ren, aZ, aV, bX, bD, bB, bf, bK, bq, bJ, aF, aN, aR, aO, au, aP]; try rfl) .nil) ?_))
  conv => whnf
  first | rfl | (simp; done) | (simp; rfl) | (simp; and_intros <;> rfl)
 refine .loopS (fO n p0 p1 p2) (fun (s1 : Int) => (.slice (List.map encS p0) .shared :: (.func 155 [.ptr 0 0] :: (u4 (.unk :: (.int .i64 (p0.length : Int) :: (.int .i64 s1 :: (u8 (u2 []))))))))) (fun (s1 : Int) => [.box [.slice (List.map ah p1) .shared, .slice (List.map aA p2) .shared]]) ho1 (fun _ => rfl) (li (.s (.s (.u4 (.u (.s (.s (.u8 (.u2 .n))))))))) ?_
 intro n1 s1 hs1 KL1 hKL1
 unfold fO at hs1
 refine .q fun K5 k5 => ?_
 refine rg 0 ?_
 conv => whnf
 refine k5 _ _ ?_
 refine .q fun K6 k6 => ?_
 refine .aM rfl hs1 (fun hc1 hs1 => ?_) (fun hc1 hs1 => ?_)
 ·refine .skip ?_
  conv => whnf
  refine k6 _ _ ?_
  refine .q fun K7 k7 => ?_
  refine .block ?_
  refine .q fun K8 k8 => ?_
  refine rg 0 ?_
  conv => whnf
  refine k8 _ _ ?_
  refine .q fun K9 k9 => ?_
  refine rg 0 ?_
  conv => whnf
  obtain ⟨x1, hx1, hs1⟩ := ob hs1
  refine bA (l := p0) (f := encS) (cs := [.str (x1)]) hx1 (rfl) rfl ?_
  conv => whnf
  obtain ⟨x2, hx2, hs1⟩ := ob hs1
  refine dw [0] [] [.str x1, .ptr 0 0] [.str x1, .ptr 0 0] (Au _ _ _ _ _ hx2) Xq rfl (.cons (by simp only [bH, ren, aZ, aV, bX, bD, bB, bf, bK, bq, bJ, aF, aN, aR, aO, au, aP]; try rfl) .nil) (rfl) (.cons (.same _) (.cons (.same _) .nil)) (rn := .bool x2) (rfl) (Hn := [.box [.slice (List.map ah p1) .shared, .slice (List.map aA p2) .shared]]) ((dN (by simp only [bH, ren, aZ, aV, bX, bD, bB, bf, bK, bq, bJ, aF, aN, aR, aO, au, aP]; try rfl) rfl)) ?_
  conv => whnf
  refine k9 _ _ ?_
  refine .aM rfl hs1 (fun hc2 hs1 => ?_) (fun hc2 hs1 => ?_)
  ·refine .q fun K10 k10 => ?_
   refine rg 0 ?_
   conv => whnf
   refine k10 _ _ ?_
   refine .ret ?_
   conv => whnf
   have e9 := sj hs1
   subst e9
   dsimp only [LR.el] at h
   have e9 := sj h
   subst e9
   refine hQ _ _ _ (fF (u4 (.int .i64 s1 :: (u8 (u4 (u2 []))))) [.box [.slice (List.map ah p1) .shared, .slice (List.map aA p2) .shared]] (wk [some 0] (.u4 (.c rfl (.u8 (.u4 (.u2 .nil))))) (.b rfl (.e aF (.e aN .nil)) .nil) rfl) (bP aI [0] rfl (.cons (by simp only [bH, ren, aZ, aV, bX, bD, bB, bf, bK, bq, bJ, aF, aN, aR, aO, au, aP]; try rfl) .nil) ?_))
   conv => whnf
   first | rfl | (simp; done) | (simp; rfl) | (simp; and_intros <;> rfl)
  refine .skip ?_
  conv => whnf
  refine k7 _ _ ?_
  refine .know 5 0 fun hv1 => ?_
  refine .know 0 0 fun hv2 => ?_
  refine rg 0 ?_
  conv => whnf
  refine ⟨(s1 + 1), by have := fQ hv1; have := ko hv2; have h8 := of_decide_eq_true hc1; exact bT (by omega) (by omega), ?_⟩
  conv => whnf
  exact hKL1 _ _ _ hs1 (li (.s (.s (.u4 (.u (.s (.s (.u8 (.u2 .n)))))))))
 refine .exit ?_
 conv => whnf
 exact hR1 _ (sj hs1).symm _ _ (li (.u16 (.u2 (.u .n))))
theorem tK (n : Nat) (p0 : List Str) (p1 : List Carrier) (p2 : List Decl) (r : Bool) (h : iM n p0 p1 p2 = some r) : aj Tryz.prog 94 [.slice (List.map encS p0) .shared, .func 155 [.ptr 0 0]] [.box [.slice (List.map ah p1) .shared, .slice (List.map aA p2) .shared]] (.bool r) [.box [.slice (List.map ah p1) .shared, .slice (List.map aA p2) .shared]] := by
 unfold iM at h
 refine aB true Tryz.func94 rfl (by rw [Tryz.ntmps94]; exact Nat.le_of_ble_eq_true rfl) fun Q hQ t ht => ?_
 conv at ht => whnf
 subst ht
 refine .q fun K1 k1 => ?_
 refine rg 0 ?_
 conv => whnf
 refine k1 _ _ ?_
 refine .q fun K2 k2 => ?_
 refine rg 0 ?_
 conv => whnf
 obtain ⟨x1, hx1, h⟩ := ob h
 refine dw [0] [] [.slice (List.map encS p0) .shared, .func 155 [.ptr 0 0]] [.slice (List.map encS p0) .shared, .func 155 [.ptr 0 0]] (vI _ _ _ _ _ hx1) Qk rfl (.cons (by simp only [bH, ren, aZ, aV, bX, bD, bB, bf, bK, bq, bJ, aF, aN, aR, aO, au, aP]; try rfl) .nil) (by simp; try decide) (.cons (.same _) (.cons (.same _) .nil)) (rn := .int .i64 x1) (rfl) (Hn := [.box [.slice (List.map ah p1) .shared, .slice (List.map aA p2) .shared]]) ((dN (by simp only [bH, ren, aZ, aV, bX, bD, bB, bf, bK, bq, bJ, aF, aN, aR, aO, au, aP]; try rfl) rfl)) ?_
 conv => whnf
 refine k2 _ _ ?_
 refine .ret ?_
 conv => whnf
 have e9 := sj h
 subst e9
 refine hQ _ _ _ (fF (u4 (.bool (decide (0 ≤ x1)) :: (u4 []))) [.box [.slice (List.map ah p1) .shared, .slice (List.map aA p2) .shared]] (wk [some 0] (.u4 (.c rfl (.u4 .nil))) (.b rfl (.e aF (.e aN .nil)) .nil) rfl) (bP aI [0] rfl (.cons (by simp only [bH, ren, aZ, aV, bX, bD, bB, bf, bK, bq, bJ, aF, aN, aR, aO, au, aP]; try rfl) .nil) ?_))
 conv => whnf
 first | rfl | (simp; done) | (simp; rfl) | (simp; and_intros <;> rfl)
theorem Df (n : Nat) (p0 : Env) (p1 : Ty) (r : Bool) (h : iC n p0 p1 = some r) : aj Tryz.prog 90 [.agg [.slice (List.map ah p0.carriers) .shared, .slice (List.map aA p0.names) .shared], .agg [.int .i64 p1.kind, .str p1.name, .slice (List.map aC p1.kids) .shared]] [] (.bool r) [] := by
 unfold iC at h
 refine aB true Tryz.func90 rfl (by rw [Tryz.ntmps90]; exact Nat.le_of_ble_eq_true rfl) fun Q hQ t ht => ?_
 conv at ht => whnf
 subst ht
 refine .q fun K1 k1 => ?_
 refine rg 2 ?_
 conv => whnf
 refine k1 _ _ ?_
 refine .q fun K2 k2 => ?_
 refine rg 0 ?_
 conv => whnf
 obtain ⟨x1, hx1, h⟩ := ob h
 refine aJ (uX _ _ _ hx1) Ux (.cons (.same _) .nil) (fun g => by simp) (fun g => by simp) ?_
 conv => whnf
 obtain ⟨x2, hx2, h⟩ := ob h
 refine dw [0] [] [.slice (List.map encS x1) .shared, .func 155 [.ptr 0 0]] [.slice (List.map encS x1) .shared, .func 155 [.ptr 0 0]] (tK _ _ _ _ _ hx2) TQ rfl (.cons (by simp only [bH, ren, aZ, aV, bX, bD, bB, bf, bK, bq, bJ, aF, aN, aR, aO, au, aP]; try rfl) .nil) (by simp; try decide) (.cons (.same _) (.cons (.same _) .nil)) (rn := .bool x2) (rfl) (Hn := [.box [.slice (List.map ah p0.carriers) .shared, .slice (List.map aA p0.names) .shared]]) ((dN (by simp only [bH, ren, aZ, aV, bX, bD, bB, bf, bK, bq, bJ, aF, aN, aR, aO, au, aP]; try rfl) rfl)) ?_
 conv => whnf
 refine k2 _ _ ?_
 refine .ret ?_
 conv => whnf
 have e9 := sj h
 subst e9
 refine hQ _ _ _ (aH aI (fun g => rfl) ?_)
 conv => whnf
end Abs
end Go.Proofs.YtkopaeklihhdlaaGreat
