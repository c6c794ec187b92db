/-
  Contracts of Go functions (printed). Conditions: none.
-/
import Derived.KernelRfl
import Derived.Test.YtkopaeklihhdlaaGreatCDrnox684605
import Derived.Test.YtkopaeklihhdlaaGreatCE1oxbc5c81
set_option linter.unusedSimpArgs false
set_option linter.unusedVariables false
namespace Go.Proofs.YtkopaeklihhdlaaGreat
namespace Abs
open Go Go.Proofs
set_option maxRecDepth 100000
set_option maxHeartbeats 40000000
theorem uj (n : Nat) (p0 : Ty) (r : Bool) (h : fT n p0 = some r) : au Tryz.prog 93 [.agg [.int .i64 p0.kind, .str p0.name, .slice (List.map aC p0.kids) .shared]] [] (.bool r) [] := by
 unfold fT at h
 refine aB true Tryz.func93 rfl (by rw [Tryz.ntmps93]; exact Nat.le_of_ble_eq_true rfl) fun Q hQ t ht => ?_
 conv at ht => whnf
 subst ht
 refine .q fun K1 k1 => ?_
 refine rg 1 ?_
 conv => whnf
 refine k1 _ _ ?_
 refine .q fun K2 k2 => ?_
 refine rg 1 ?_
 conv => whnf
 refine k2 _ _ ?_
 refine .q fun K3 k3 => ?_
 refine rg 0 ?_
 conv => whnf
 obtain ⟨x1, hx1, h⟩ := ob h
 refine bH [1] [] [.ptr 0 0, .agg [.int .i64 p0.kind, .str p0.name, .slice (List.map aC p0.kids) .shared], .int .i64 1, .bool false] [.ptr 1 0, .agg [.int .i64 p0.kind, .str p0.name, .slice (List.map aC p0.kids) .shared], .int .i64 1, .bool false] (zP _ _ _ _ _ _ _ _ hx1) Xc rfl (.cons (rfl) .nil) (by simp; try decide) (.cons (.same _) (.cons (.same _) (.cons (.same _) (.cons (.same _) .nil)))) (rn := .bool x1.1) (rfl) (Hn := [.box [.int .i64 x1.2, .int .i64 16, .int .i64 6]]) ((bS (rfl) rfl)) ?_
 conv => whnf
 refine k3 _ _ ?_
 refine .ret ?_
 conv => whnf
 have e9 := sj h
 subst e9
 refine hQ _ _ _ (aG aK (fun g => rfl) ?_)
 conv => whnf
abbrev qem (qdz : (List Ty) → Int → Option Int) : Prop := ∀ (p0 : List Ty) (p1 : Int) (r : Int), qdz p0 p1 = some r → au Tryz.prog 288 [.slice (List.map aC p0) .shared, .func 206 [.ptr 0 0]] [.box [.int .i64 p1]] (.int .i64 r) [.box [.int .i64 p1]]
abbrev qei (qdv : (List Ty) → Int → Option Bool) : Prop := ∀ (p0 : List Ty) (p1 : Int) (r : Bool), qdv p0 p1 = some r → au Tryz.prog 205 [.slice (List.map aC p0) .shared, .func 206 [.ptr 0 0]] [.box [.int .i64 p1]] (.bool r) [.box [.int .i64 p1]]
abbrev qew (qd7 : Ty → Int → Option Bool) : Prop := ∀ (p0 : Ty) (p1 : Int) (r : Bool), qd7 p0 p1 = some r → au Tryz.prog 154 [.agg [.int .i64 p0.kind, .str p0.name, .slice (List.map aC p0.kids) .shared], .int .i64 p1] [] (.bool r) []
abbrev qev (qd8 : Ty → Int → Option Bool) : Prop := ∀ (p0 : Ty) (p1 : Int) (r : Bool), qd8 p0 p1 = some r → au Tryz.prog 206 [.agg [.int .i64 p0.kind, .str p0.name, .slice (List.map aC p0.kids) .shared], .ptr 0 0] [.box [.int .i64 p1]] (.bool r) [.box [.int .i64 p1]]
theorem vQ (n : Nat) (qdz : (List Ty) → Int → Option Int) (qdv : (List Ty) → Int → Option Bool) (qd7 : Ty → Int → Option Bool) (qd8 : Ty → Int → Option Bool) (qb6 : qem qdz) (qb4 : qei qdv) (qca : qew qd7) (qcb : qev qd8) (p0 : List Ty) (p1 : Int) (r : Int) (h : fU n qdz qdv qd7 qd8 p0 p1 = some r) : au Tryz.prog 288 [.slice (List.map aC p0) .shared, .func 206 [.ptr 0 0]] [.box [.int .i64 p1]] (.int .i64 r) [.box [.int .i64 p1]] := by
 unfold fU at h
 refine aB true Tryz.func288 rfl (by rw [Tryz.ntmps288]; exact Nat.le_of_ble_eq_true rfl) fun Q hQ t ht => ?_
 conv at ht => whnf
 subst ht
 refine .q fun K1 k1 => ?_
 refine rg 0 ?_
 conv => whnf
 refine k1 _ _ ?_
 refine .q fun K2 k2 => ?_
 refine .q fun K3 k3 => ?_
 refine rg 0 ?_
 conv => whnf
 refine aQ (l := p0) (f := aC) ?_
 conv => whnf
 refine k3 _ _ ?_
 refine .block ?_
 obtain ⟨o1, ho1, h⟩ := ob h
 have hR1 : ∀ s2 : Unit, o1 = .nx s2 → ∀ t9 h9, Le 1 t9 h9 (u16 (u2 (.unk :: []))) [.box [.int .i64 p1]] → K2 t9 h9 := by
  intro s2 ho
  subst ho
  dsimp only [LR.el] at h
  intro t9 h9 hw
  refine k2 _ _ (AW.le hw ?_)
  refine .q fun K4 k4 => ?_
  refine rg 0 ?_
  conv => whnf
  refine k4 _ _ ?_
  refine .ret ?_
  conv => whnf
  have e9 := sj h
  subst e9
  refine hQ _ _ _ (dZ (u4 (.int .i64 (-1) :: (u8 (u4 (u2 []))))) [.box [.int .i64 p1]] (wk [some 0] (.u4 (.c rfl (.u8 (.u4 (.u2 .nil))))) (.b rfl (.c rfl .nil) .nil) rfl) (bG aK [0] rfl (.cons (rfl) .nil) ?_))
  conv => whnf
  first | rfl | (simp; done) | (simp; rfl) | (simp; and_intros <;> rfl)
 refine .loopS (gH n qdz qdv qd7 qd8 p0 p1) (fun (s1 : Int) => (.slice (List.map aC p0) .shared :: (.func 206 [.ptr 0 0] :: (u4 (.unk :: (.int .i64 (p0.length : Int) :: (.int .i64 s1 :: (u8 (u2 []))))))))) (fun (s1 : Int) => [.box [.int .i64 p1]]) ho1 (fun _ => rfl) (li (.s (.s (.u4 (.u (.s (.s (.u8 (.u2 .n))))))))) ?_
 intro n1 s1 hs1 KL1 hKL1
 unfold gH at hs1
 refine .q fun K5 k5 => ?_
 refine rg 0 ?_
 conv => whnf
 refine k5 _ _ ?_
 refine .q fun K6 k6 => ?_
 refine .aL rfl hs1 (fun hc1 hs1 => ?_) (fun hc1 hs1 => ?_)
 ·refine .skip ?_
  conv => whnf
  refine k6 _ _ ?_
  refine .q fun K7 k7 => ?_
  refine .block ?_
  refine .q fun K8 k8 => ?_
  refine rg 0 ?_
  conv => whnf
  refine k8 _ _ ?_
  refine .q fun K9 k9 => ?_
  refine rg 0 ?_
  conv => whnf
  obtain ⟨x1, hx1, hs1⟩ := ob hs1
  refine aW (l := p0) (f := aC) (cs := [.int .i64 ((x1).kind), .str ((x1).name), .slice (List.map aC ((x1).kids)) .shared]) hx1 (fq x1) rfl ?_
  conv => whnf
  obtain ⟨x2, hx2, hs1⟩ := ob hs1
  refine bH [0] [] [.agg [.int .i64 x1.kind, .str x1.name, .slice (List.map aC x1.kids) .shared], .ptr 0 0] [.agg [.int .i64 x1.kind, .str x1.name, .slice (List.map aC x1.kids) .shared], .ptr 0 0] (qcb _ _ _ hx2) ad7 rfl (.cons (rfl) .nil) (by simp; try decide) (.cons (.same _) (.cons (.same _) .nil)) (rn := .bool x2) (rfl) (Hn := [.box [.int .i64 p1]]) ((bS (rfl) rfl)) ?_
  conv => whnf
  refine k9 _ _ ?_
  refine .aL rfl hs1 (fun hc2 hs1 => ?_) (fun hc2 hs1 => ?_)
  ·refine .q fun K10 k10 => ?_
   refine rg 0 ?_
   conv => whnf
   refine k10 _ _ ?_
   refine .ret ?_
   conv => whnf
   have e9 := sj hs1
   subst e9
   dsimp only [LR.el] at h
   have e9 := sj h
   subst e9
   refine hQ _ _ _ (dZ (u4 (.int .i64 s1 :: (u8 (u4 (u2 []))))) [.box [.int .i64 p1]] (wk [some 0] (.u4 (.c rfl (.u8 (.u4 (.u2 .nil))))) (.b rfl (.c rfl .nil) .nil) rfl) (bG aK [0] rfl (.cons (rfl) .nil) ?_))
   conv => whnf
   first | rfl | (simp; done) | (simp; rfl) | (simp; and_intros <;> rfl)
  refine .skip ?_
  conv => whnf
  refine k7 _ _ ?_
  refine .know 5 0 fun hv1 => ?_
  refine .know 0 0 fun hv2 => ?_
  refine rg 0 ?_
  conv => whnf
  refine ⟨(s1 + 1), by have := dn hv1; have := gX hv2; have h8 := of_decide_eq_true hc1; exact bD (by omega) (by omega), ?_⟩
  conv => whnf
  exact hKL1 _ _ _ hs1 (li (.s (.s (.u4 (.u (.s (.s (.u8 (.u2 .n)))))))))
 refine .exit ?_
 conv => whnf
 exact hR1 _ (sj hs1).symm _ _ (li (.u16 (.u2 (.u .n))))
theorem uG (n : Nat) (qdz : (List Ty) → Int → Option Int) (qdv : (List Ty) → Int → Option Bool) (qd7 : Ty → Int → Option Bool) (qd8 : Ty → Int → Option Bool) (qb6 : qem qdz) (qb4 : qei qdv) (qca : qew qd7) (qcb : qev qd8) (p0 : List Ty) (p1 : Int) (r : Bool) (h : eY n qdz qdv qd7 qd8 p0 p1 = some r) : au Tryz.prog 205 [.slice (List.map aC p0) .shared, .func 206 [.ptr 0 0]] [.box [.int .i64 p1]] (.bool r) [.box [.int .i64 p1]] := by
 unfold eY at h
 refine aB true Tryz.func205 rfl (by rw [Tryz.ntmps205]; exact Nat.le_of_ble_eq_true rfl) fun Q hQ t ht => ?_
 conv at ht => whnf
 subst ht
 refine .q fun K1 k1 => ?_
 refine rg 0 ?_
 conv => whnf
 refine k1 _ _ ?_
 refine .q fun K2 k2 => ?_
 refine rg 0 ?_
 conv => whnf
 obtain ⟨x1, hx1, h⟩ := ob h
 refine bH [0] [] [.slice (List.map aC p0) .shared, .func 206 [.ptr 0 0]] [.slice (List.map aC p0) .shared, .func 206 [.ptr 0 0]] (qb6 _ _ _ hx1) Xz rfl (.cons (rfl) .nil) (by simp; try decide) (.cons (.same _) (.cons (.same _) .nil)) (rn := .int .i64 x1) (rfl) (Hn := [.box [.int .i64 p1]]) ((bS (rfl) rfl)) ?_
 conv => whnf
 refine k2 _ _ ?_
 refine .ret ?_
 conv => whnf
 have e9 := sj h
 subst e9
 refine hQ _ _ _ (dZ (u4 (.bool (decide (0 ≤ x1)) :: (u4 []))) [.box [.int .i64 p1]] (wk [some 0] (.u4 (.c rfl (.u4 .nil))) (.b rfl (.c rfl .nil) .nil) rfl) (bG aK [0] rfl (.cons (rfl) .nil) ?_))
 conv => whnf
 first | rfl | (simp; done) | (simp; rfl) | (simp; and_intros <;> rfl)
theorem AY (n : Nat) (qdz : (List Ty) → Int → Option Int) (qdv : (List Ty) → Int → Option Bool) (qd7 : Ty → Int → Option Bool) (qd8 : Ty → Int → Option Bool) (qb6 : qem qdz) (qb4 : qei qdv) (qca : qew qd7) (qcb : qev qd8) (p0 : Ty) (p1 : Int) (r : Bool) (h : jN n qdz qdv qd7 qd8 p0 p1 = some r) : au Tryz.prog 154 [.agg [.int .i64 p0.kind, .str p0.name, .slice (List.map aC p0.kids) .shared], .int .i64 p1] [] (.bool r) [] := by
 unfold jN at h
 refine aB true Tryz.func154 rfl (by rw [Tryz.ntmps154]; exact Nat.le_of_ble_eq_true rfl) fun Q hQ t ht => ?_
 conv at ht => whnf
 subst ht
 refine .q fun K1 k1 => ?_
 refine rg 2 ?_
 conv => whnf
 refine k1 _ _ ?_
 refine .q fun K2 k2 => ?_
 obtain ⟨s1, hj1, h⟩ := ob h
 have hR1 : ∀ t9 h9, Le 0 t9 h9 (u4 (.bool s1 :: (u8 (u2 [])))) [] → K2 t9 h9 := by
  intro t9 h9 hw
  refine k2 _ _ (AW.le hw ?_)
  clear hw
  refine .ret ?_
  conv => whnf
  have e9 := sj h
  subst e9
  refine hQ _ _ _ (aG aK (fun g => rfl) ?_)
  conv => whnf
 refine rg 0 ?_
 conv => whnf
 refine aH hj1 (fun hc1 hj1 => ?_) (fun hc1 hj1 => ?_)
 ·conv => whnf
  cases hj1
  exact hR1 _ _ (wk [] (.u4 (.c rfl (.u8 (.u2 .nil)))) .nil rfl)
 conv => whnf
 obtain ⟨x1, hx1, hj1⟩ := ob hj1
 refine bH [1] [] [.slice (List.map aC p0.kids) .shared, .func 206 [.ptr 0 0]] [.slice (List.map aC p0.kids) .shared, .func 206 [.ptr 1 0]] (qb4 _ _ _ hx1) XM rfl (.cons (rfl) .nil) (by simp; try decide) (.cons (.same _) (.cons (.same _) .nil)) (rn := .bool x1) (rfl) (Hn := [.box [.int .i64 p1]]) ((bS (rfl) rfl)) ?_
 conv => whnf
 cases hj1
 exact hR1 _ _ (wk [] (.u4 (.c rfl (.u8 (.u2 .nil)))) .nil rfl)
theorem zB (n : Nat) (qdz : (List Ty) → Int → Option Int) (qdv : (List Ty) → Int → Option Bool) (qd7 : Ty → Int → Option Bool) (qd8 : Ty → Int → Option Bool) (qb6 : qem qdz) (qb4 : qei qdv) (qca : qew qd7) (qcb : qev qd8) (p0 : Ty) (p1 : Int) (r : Bool) (h : je n qdz qdv qd7 qd8 p0 p1 = some r) : au Tryz.prog 206 [.agg [.int .i64 p0.kind, .str p0.name, .slice (List.map aC p0.kids) .shared], .ptr 0 0] [.box [.int .i64 p1]] (.bool r) [.box [.int .i64 p1]] := by
 unfold je at h
 refine aB true Tryz.func206 rfl (by rw [Tryz.ntmps206]; exact Nat.le_of_ble_eq_true rfl) fun Q hQ t ht => ?_
 conv at ht => whnf
 subst ht
 refine .q fun K1 k1 => ?_
 refine rg 1 ?_
 conv => whnf
 refine k1 _ _ ?_
 refine .q fun K2 k2 => ?_
 refine rg 0 ?_
 conv => whnf
 obtain ⟨x1, hx1, h⟩ := ob h
 refine aD (qca _ _ _ hx1) Xk (.cons (.same _) (.cons (.same _) .nil)) (fun g => by simp) (fun g => rfl) ?_
 conv => whnf
 refine k2 _ _ ?_
 refine .ret ?_
 conv => whnf
 have e9 := sj h
 subst e9
 refine hQ _ _ _ (dZ (u2 (.unk :: (.bool x1 :: (u2 (.unk :: []))))) [.box [.int .i64 p1]] (wk [some 0] (.u2 (.u (.c rfl (.u2 (.u .nil))))) (.b rfl (.c rfl .nil) .nil) rfl) (bG aK [0] rfl (.cons (rfl) .nil) ?_))
 conv => whnf
 first | rfl | (simp; done) | (simp; rfl) | (simp; and_intros <;> rfl)
theorem iW (n : Nat) : qem (dW n) ∧ qei (cK n) ∧ qew (fG n) ∧ qev (eU n) := by
 induction n with
 | zero => exact ⟨(fun p0 p1 r h => by unfold dW at h; cases h), (fun p0 p1 r h => by unfold cK at h; cases h), (fun p0 p1 r h => by unfold fG at h; cases h), (fun p0 p1 r h => by unfold eU at h; cases h)⟩
 | succ n ih =>
  exact ⟨(fun p0 p1 r h => vQ n _ _ _ _ ih.1 ih.2.1 ih.2.2.1 ih.2.2.2 p0 p1 r (by unfold dW at h; exact h)), (fun p0 p1 r h => uG n _ _ _ _ ih.1 ih.2.1 ih.2.2.1 ih.2.2.2 p0 p1 r (by unfold cK at h; exact h)), (fun p0 p1 r h => AY n _ _ _ _ ih.1 ih.2.1 ih.2.2.1 ih.2.2.2 p0 p1 r (by unfold fG at h; exact h)), (fun p0 p1 r h => zB n _ _ _ _ ih.1 ih.2.1 ih.2.2.1 ih.2.2.2 p0 p1 r (by unfold eU at h; exact h))⟩
theorem Gc (n : Nat) : qew (fG n) := (iW n).2.2.1
theorem Eh (n : Nat) (p0 : Ty) (r : Bool) (h : gW n p0 = some r) : au Tryz.prog 89 [.agg [.int .i64 p0.kind, .str p0.name, .slice (List.map aC p0.kids) .shared]] [] (.bool r) [] := by
 unfold gW at h
 refine aB true Tryz.func89 rfl (by rw [Tryz.ntmps89]; exact Nat.le_of_ble_eq_true rfl) fun Q hQ t ht => ?_
 conv at ht => whnf
 subst ht
 refine .q fun K1 k1 => ?_
 refine rg 1 ?_
 conv => whnf
 refine k1 _ _ ?_
 refine .q fun K2 k2 => ?_
 obtain ⟨s1, hj1, h⟩ := ob h
 have hR1 : ∀ t9 h9, Le 0 t9 h9 (u2 (.bool s1 :: (u4 (u2 (.unk :: []))))) [] → K2 t9 h9 := by
  intro t9 h9 hw
  refine k2 _ _ (AW.le hw ?_)
  clear hw
  refine .ret ?_
  conv => whnf
  have e9 := sj h
  subst e9
  refine hQ _ _ _ (aG aK (fun g => rfl) ?_)
  conv => whnf
 refine rg 0 ?_
 conv => whnf
 obtain ⟨x1, hx1, hj1⟩ := ob hj1
 refine aD (uj _ _ _ hx1) T9 (.cons (.same _) .nil) (fun g => by simp) (fun g => rfl) ?_
 conv => whnf
 refine aH hj1 (fun hc1 hj1 => ?_) (fun hc1 hj1 => ?_)
 ·conv => whnf
  obtain ⟨x2, hx2, hj1⟩ := ob hj1
  refine aD (Gc _ _ _ _ hx2) Xk (.cons (.same _) (.cons (.same _) .nil)) (fun g => by simp) (fun g => rfl) ?_
  conv => whnf
  cases hj1
  exact hR1 _ _ (wk [] (.u2 (.c rfl (.u4 (.u2 (.u .nil))))) .nil rfl)
 conv => whnf
 cases hj1
 exact hR1 _ _ (wk [] (.u2 (.c rfl (.u4 (.u2 (.u .nil))))) .nil rfl)
abbrev qeu (qd6 : Ty → (List (Str × Bool)) → Option (List (Str × Bool))) : Prop := ∀ (p0 : Ty) (p1 : List (Str × Bool)) (r : List (Str × Bool)), qd6 p0 p1 = some r → au Tryz.prog 159 [.agg [.int .i64 p0.kind, .str p0.name, .slice (List.map aC p0.kids) .shared], .mapr 0] [.mp (List.map (fun p => (p.1, (fun (x : Bool) => .bool x) p.2)) p1)] (.tup []) [.mp (List.map (fun p => (p.1, (fun (x : Bool) => .bool x) p.2)) r)]
theorem Cn (n : Nat) (qd6 : Ty → (List (Str × Bool)) → Option (List (Str × Bool))) (qb9 : qeu qd6) (p0 : Ty) (p1 : List (Str × Bool)) (r : List (Str × Bool)) (h : kT n qd6 p0 p1 = some r) : au Tryz.prog 159 [.agg [.int .i64 p0.kind, .str p0.name, .slice (List.map aC p0.kids) .shared], .mapr 0] [.mp (List.map (fun p => (p.1, (fun (x : Bool) => .bool x) p.2)) p1)] (.tup []) [.mp (List.map (fun p => (p.1, (fun (x : Bool) => .bool x) p.2)) r)] := by
 unfold kT at h
 refine aB true Tryz.func159 rfl (by rw [Tryz.ntmps159]; exact Nat.le_of_ble_eq_true rfl) fun Q hQ t ht => ?_
 conv at ht => whnf
 subst ht
 refine .q fun K1 k1 => ?_
 refine rg 1 ?_
 conv => whnf
 refine k1 _ _ ?_
 refine .q fun K2 k2 => ?_
 obtain ⟨s1, hj1, h⟩ := ob h
 have hR1 : ∀ t9 h9, Le 1 t9 h9 (.unk :: (.mapr 0 :: (.ptr 1 0 :: (u16 (u4 []))))) [.mp (List.map (fun p => (p.1, (fun (x : Bool) => .bool x) p.2)) s1), .box [.int .i64 p0.kind, .str p0.name, .slice (List.map aC p0.kids) .shared]] → K2 t9 h9 := by
  intro t9 h9 hw
  refine k2 _ _ (AW.le hw ?_)
  clear hw
  refine .q fun K3 k3 => ?_
  refine rg 0 ?_
  conv => whnf
  refine aQ (l := p0.kids) (f := aC) ?_
  conv => whnf
  refine k3 _ _ ?_
  refine .block ?_
  obtain ⟨o1, ho1, h⟩ := ob h
  have hR2 : ∀ s3 : List (Str × Bool), o1 = .nx s3 → ∀ t9 h9, Le 1 t9 h9 (u16 (u4 (u2 (.unk :: [])))) [.mp (List.map (fun p => (p.1, (fun (x : Bool) => .bool x) p.2)) s3)] → Q .normal t9 h9 := by
   intro s3 ho
   subst ho
   dsimp only [LR.el] at h
   intro t9 h9 hw
   have e9 := sj h
   subst e9
   refine hQ _ _ _ (dZ (u16 (u4 (u2 (.unk :: [])))) [.mp (List.map (fun p => (p.1, (fun (x : Bool) => .bool x) p.2)) s3)] (hw.trans (wk [some 0] (.u16 (.u4 (.u2 (.u .nil)))) (.old (.same rfl (congrArg AObj.mp (xK (f := (fun (x : Bool) => .bool x)) (fun g x => rfl) _ _))) .nil) rfl)) (bG aK [0] rfl (.cons (congrArg AObj.mp (xK (f := (fun (x : Bool) => .bool x)) (fun g x => rfl) _ _)) .nil) ?_))
   conv => whnf
   first | rfl | (simp; done) | (simp; rfl) | (simp; and_intros <;> rfl)
  refine .loopS (ku n qd6 p0) (fun (s2 : Int × (List (Str × Bool))) => (.unk :: (.mapr 0 :: (u8 (u2 (.unk :: (.slice (List.map aC p0.kids) .shared :: (.int .i64 (p0.kids.length : Int) :: (.int .i64 s2.1 :: (u4 (u2 (.unk :: [])))))))))))) (fun (s2 : Int × (List (Str × Bool))) => [.mp (List.map (fun p => (p.1, (fun (x : Bool) => .bool x) p.2)) s2.2)]) ho1 (fun _ => rfl) (wk [some 0] (.u (.c rfl (.u8 (.u2 (.u (.e aZ (.c rfl (.c rfl (.u4 (.u2 (.u .nil))))))))))) (.old (.same rfl (congrArg AObj.mp (xK (f := (fun (x : Bool) => .bool x)) (fun g x => rfl) _ _))) .nil) rfl) ?_
  intro n1 s2 hs1 KL1 hKL1
  unfold ku at hs1
  refine .q fun K4 k4 => ?_
  refine rg 0 ?_
  conv => whnf
  refine k4 _ _ ?_
  refine .q fun K5 k5 => ?_
  refine .aL rfl hs1 (fun hc1 hs1 => ?_) (fun hc1 hs1 => ?_)
  ·refine .skip ?_
   conv => whnf
   refine k5 _ _ ?_
   refine .q fun K6 k6 => ?_
   refine .block ?_
   refine .q fun K7 k7 => ?_
   refine rg 1 ?_
   conv => whnf
   obtain ⟨x1, hx1, hs1⟩ := ob hs1
   refine aW (l := p0.kids) (f := aC) (cs := [.int .i64 ((x1).kind), .str ((x1).name), .slice (List.map aC ((x1).kids)) .shared]) hx1 (fq x1) rfl ?_
   conv => whnf
   refine k7 _ _ ?_
   refine rg 0 ?_
   conv => whnf
   obtain ⟨x2, hx2, hs1⟩ := ob hs1
   refine bH [0] [] [.agg [.int .i64 x1.kind, .str x1.name, .slice (List.map aC x1.kids) .shared], .mapr 0] [.agg [.int .i64 x1.kind, .str x1.name, .slice (List.map aC x1.kids) .shared], .mapr 0] (qb9 _ _ _ hx2) Xo rfl (.cons (congrArg AObj.mp (xK (f := (fun (x : Bool) => .bool x)) (fun g x => rfl) _ _)) .nil) (by simp; try decide) (.cons (.same _) (.cons (.same _) .nil)) (rn := .tup []) (rfl) (Hn := [.mp (List.map (fun p => (p.1, (fun (x : Bool) => .bool x) p.2)) x2)]) ((bS (congrArg AObj.mp (xK (f := (fun (x : Bool) => .bool x)) (fun g x => rfl) _ _)) rfl)) ?_
   conv => whnf
   refine k6 _ _ ?_
   refine .know 15 0 fun hv1 => ?_
   refine .know 13 0 fun hv2 => ?_
   refine rg 0 ?_
   conv => whnf
   refine ⟨(s2.1 + 1), by have := dn hv1; have := gX hv2; have h8 := of_decide_eq_true hc1; exact bD (by omega) (by omega), ?_⟩
   conv => whnf
   exact hKL1 _ _ _ hs1 (wk [some 0] (.u (.c rfl (.u8 (.u2 (.u (.e aZ (.c rfl (.c rfl (.u4 (.u2 (.u .nil))))))))))) (.old (.same rfl (congrArg AObj.mp (xK (f := (fun (x : Bool) => .bool x)) (fun g x => rfl) _ _))) .nil) rfl)
  refine .exit ?_
  conv => whnf
  exact hR2 _ (sj hs1).symm _ _ (li (.u16 (.u4 (.u2 (.u .n)))))
 refine .q fun K8 k8 => ?_
 refine rg 0 ?_
 conv => whnf
 refine k8 _ _ ?_
 refine .aL rfl hj1 (fun hc2 hj1 => ?_) (fun hc2 hj1 => ?_)
 ·refine rg 0 ?_
  conv => whnf
  obtain ⟨x3, hx3, hj1⟩ := ob hj1
  refine Z0 (m := p1) (f := (fun (x : Bool) => .bool x)) hx3 rfl ?_
  conv => whnf
  cases hj1
  exact hR1 _ _ (li (.u (.s (.s (.u16 (.u4 .n))))))
 refine .skip ?_
 conv => whnf
 cases hj1
 exact hR1 _ _ (li (.u (.s (.s (.u16 (.u4 .n))))))
theorem Gs (n : Nat) : qeu (gQ n) := by
 induction n with
 | zero => exact (fun p0 p1 r h => by unfold gQ at h; cases h)
 | succ n ih =>
  exact (fun p0 p1 r h => Cn n _ ih p0 p1 r (by unfold gQ at h; exact h))
theorem IV (n : Nat) : qeu (gQ n) := (Gs n)
theorem yK (n : Nat) (p0 : Ty) (r : List Str) (h : iU n p0 = some r) : au Tryz.prog 95 [.agg [.int .i64 p0.kind, .str p0.name, .slice (List.map aC p0.kids) .shared]] [] (.slice (List.map encS r) .shared) [] := by
 unfold iU at h
 refine aB true Tryz.func95 rfl (by rw [Tryz.ntmps95]; exact Nat.le_of_ble_eq_true rfl) fun Q hQ t ht => ?_
 conv at ht => whnf
 subst ht
 refine .q fun K1 k1 => ?_
 refine rg 1 ?_
 conv => whnf
 refine k1 _ _ ?_
 refine .q fun K2 k2 => ?_
 refine .q fun K3 k3 => ?_
 refine rg 0 ?_
 conv => whnf
 obtain ⟨x1, hx1, h⟩ := ob h
 refine aD (uj _ _ _ hx1) T9 (.cons (.same _) .nil) (fun g => by simp) (fun g => rfl) ?_
 conv => whnf
 refine k3 _ _ ?_
 refine .aL rfl h (fun hc1 h => ?_) (fun hc1 h => ?_)
 ·refine .q fun K4 k4 => ?_
  refine rg 0 ?_
  conv => whnf
  refine k4 _ _ ?_
  refine .ret ?_
  conv => whnf
  have e9 := sj h
  subst e9
  refine hQ _ _ _ (aG aK (fun g => by simp) ?_)
  conv => whnf
  try rfl
 refine .skip ?_
 conv => whnf
 refine k2 _ _ ?_
 refine .q fun K5 k5 => ?_
 refine rg 1 ?_
 conv => whnf
 refine k5 _ _ ?_
 refine .q fun K6 k6 => ?_
 refine rg 0 ?_
 conv => whnf
 obtain ⟨x2, hx2, h⟩ := ob h
 refine bH [1] [] [.agg [.int .i64 p0.kind, .str p0.name, .slice (List.map aC p0.kids) .shared], .mapr 0] [.agg [.int .i64 p0.kind, .str p0.name, .slice (List.map aC p0.kids) .shared], .mapr 1] (IV _ _ _ _ hx2) Xo rfl (.cons (congrArg AObj.mp (xK (f := (fun (x : Bool) => .bool x)) (fun g x => rfl) _ _)) .nil) (by simp; try decide) (.cons (.same _) (.cons (.same _) .nil)) (rn := .tup []) (rfl) (Hn := [.mp (List.map (fun p => (p.1, (fun (x : Bool) => .bool x) p.2)) x2)]) ((bS (congrArg AObj.mp (xK (f := (fun (x : Bool) => .bool x)) (fun g x => rfl) _ _)) rfl)) ?_
 conv => whnf
 refine k6 _ _ ?_
 refine .q fun K7 k7 => ?_
 refine rg 1 ?_
 conv => whnf
 refine bH [1] [2] [.mapr 0] [.mapr 1] (IY 0 x2 _ rfl) ac0 rfl (.cons (congrArg AObj.mp (xK (f := (fun (x : Bool) => .bool x)) (fun g x => rfl) _ _)) .nil) (by simp; try decide) (.cons (.same _) .nil) (rn := .func 212 [.ptr 2 0]) (by simp; try decide) (Hn := [.mp (List.map (fun p => (p.1, (fun (x : Bool) => .bool x) p.2)) x2), .box [.mapr 1]]) ((bS (congrArg AObj.mp (xK (f := (fun (x : Bool) => .bool x)) (fun g x => rfl) _ _)) (bS rfl rfl))) ?_
 conv => whnf
 obtain ⟨x3, hx3, h⟩ := ob h
 refine bH [1, 2] [] [.func 212 [.ptr 1 0]] [.func 212 [.ptr 2 0]] (AQ _ _ _ hx3) acR rfl (.cons (congrArg AObj.mp (xK (f := (fun (x : Bool) => .bool x)) (fun g x => rfl) _ _)) (.cons rfl .nil)) (by simp; try decide) (.cons (.same _) .nil) (rn := .slice (List.map encS x3) .shared) (by simp; try decide) (Hn := [.mp (List.map (fun p => (p.1, (fun (x : Bool) => .bool x) p.2)) x2), .box [.mapr 1]]) ((bS (congrArg AObj.mp (xK (f := (fun (x : Bool) => .bool x)) (fun g x => rfl) _ _)) (bS rfl rfl))) ?_
 conv => whnf
 refine k7 _ _ ?_
 refine .ret ?_
 conv => whnf
 have e9 := sj h
 subst e9
 refine hQ _ _ _ (aG aK (fun g => by simp) ?_)
 conv => whnf
 try rfl
theorem Co (n : Nat) (p0 : Carrier) (p1 : Str) (r : Bool) (h : xq n p0 p1 = some r) : au Tryz.prog 208 [.agg [.str p0.name, .slice (List.map encS p0.elems) .shared], .ptr 0 0] [.box [.str p1]] (.bool r) [.box [.str p1]] := by
 unfold xq at h
 refine aB true Tryz.func208 rfl (by rw [Tryz.ntmps208]; exact Nat.le_of_ble_eq_true rfl) fun Q hQ t ht => ?_
 conv at ht => whnf
 subst ht
 refine .q fun K1 k1 => ?_
 refine rg 1 ?_
 conv => whnf
 refine k1 _ _ ?_
 refine .q fun K2 k2 => ?_
 refine rg 0 ?_
 conv => whnf
 refine k2 _ _ ?_
 refine .ret ?_
 conv => whnf
 have e9 := sj h
 subst e9
 refine hQ _ _ _ (dZ (u2 (.unk :: (.bool (p0.name == p1) :: (u4 [])))) [.box [.str p1]] (wk [some 0] (.u2 (.u (.c rfl (.u4 .nil)))) (.b rfl (.c rfl .nil) .nil) rfl) (bG aK [0] rfl (.cons (rfl) .nil) ?_))
 conv => whnf
 first | rfl | (simp; done) | (simp; rfl) | (simp; and_intros <;> rfl)
theorem yJ (n : Nat) (p0 : List Carrier) (p1 : Str) (r : Int) (h : j4 n p0 p1 = some r) : au Tryz.prog 119 [.slice (List.map ah p0) .shared, .func 208 [.ptr 0 0]] [.box [.str p1]] (.int .i64 r) [.box [.str p1]] := by
 unfold j4 at h
 refine aB true Tryz.func119 rfl (by rw [Tryz.ntmps119]; exact Nat.le_of_ble_eq_true rfl) fun Q hQ t ht => ?_
 conv at ht => whnf
 subst ht
 refine .q fun K1 k1 => ?_
 refine rg 0 ?_
 conv => whnf
 refine k1 _ _ ?_
 refine .q fun K2 k2 => ?_
 refine .q fun K3 k3 => ?_
 refine rg 0 ?_
 conv => whnf
 refine aQ (l := p0) (f := ah) ?_
 conv => whnf
 refine k3 _ _ ?_
 refine .block ?_
 obtain ⟨o1, ho1, h⟩ := ob h
 have hR1 : ∀ s2 : Unit, o1 = .nx s2 → ∀ t9 h9, Le 1 t9 h9 (u16 (u2 (.unk :: []))) [.box [.str p1]] → K2 t9 h9 := by
  intro s2 ho
  subst ho
  dsimp only [LR.el] at h
  intro t9 h9 hw
  refine k2 _ _ (AW.le hw ?_)
  refine .q fun K4 k4 => ?_
  refine rg 0 ?_
  conv => whnf
  refine k4 _ _ ?_
  refine .ret ?_
  conv => whnf
  have e9 := sj h
  subst e9
  refine hQ _ _ _ (dZ (u4 (.int .i64 (-1) :: (u8 (u4 (u2 []))))) [.box [.str p1]] (wk [some 0] (.u4 (.c rfl (.u8 (.u4 (.u2 .nil))))) (.b rfl (.c rfl .nil) .nil) rfl) (bG aK [0] rfl (.cons (rfl) .nil) ?_))
  conv => whnf
  first | rfl | (simp; done) | (simp; rfl) | (simp; and_intros <;> rfl)
 refine .loopS (gD n p0 p1) (fun (s1 : Int) => (.slice (List.map ah p0) .shared :: (.func 208 [.ptr 0 0] :: (u4 (.unk :: (.int .i64 (p0.length : Int) :: (.int .i64 s1 :: (u8 (u2 []))))))))) (fun (s1 : Int) => [.box [.str p1]]) ho1 (fun _ => rfl) (li (.s (.s (.u4 (.u (.s (.s (.u8 (.u2 .n))))))))) ?_
 intro n1 s1 hs1 KL1 hKL1
 unfold gD at hs1
 refine .q fun K5 k5 => ?_
 refine rg 0 ?_
 conv => whnf
 refine k5 _ _ ?_
 refine .q fun K6 k6 => ?_
 refine .aL rfl hs1 (fun hc1 hs1 => ?_) (fun hc1 hs1 => ?_)
 ·refine .skip ?_
  conv => whnf
  refine k6 _ _ ?_
  refine .q fun K7 k7 => ?_
  refine .block ?_
  refine .q fun K8 k8 => ?_
  refine rg 0 ?_
  conv => whnf
  refine k8 _ _ ?_
  refine .q fun K9 k9 => ?_
  refine rg 0 ?_
  conv => whnf
  obtain ⟨x1, hx1, hs1⟩ := ob hs1
  refine aW (l := p0) (f := ah) (cs := [.str ((x1).name), .slice (List.map encS ((x1).elems)) .shared]) hx1 (rfl) rfl ?_
  conv => whnf
  refine bH [0] [] [.agg [.str x1.name, .slice (List.map encS x1.elems) .shared], .ptr 0 0] [.agg [.str x1.name, .slice (List.map encS x1.elems) .shared], .ptr 0 0] (Co 0 x1 p1 _ rfl) acP rfl (.cons (rfl) .nil) (by simp; try decide) (.cons (.same _) (.cons (.same _) .nil)) (rn := .bool (x1.name == p1)) (rfl) (Hn := [.box [.str p1]]) ((bS (rfl) rfl)) ?_
  conv => whnf
  refine k9 _ _ ?_
  refine .aL rfl hs1 (fun hc2 hs1 => ?_) (fun hc2 hs1 => ?_)
  ·refine .q fun K10 k10 => ?_
   refine rg 0 ?_
   conv => whnf
   refine k10 _ _ ?_
   refine .ret ?_
   conv => whnf
   have e9 := sj hs1
   subst e9
   dsimp only [LR.el] at h
   have e9 := sj h
   subst e9
   refine hQ _ _ _ (dZ (u4 (.int .i64 s1 :: (u8 (u4 (u2 []))))) [.box [.str p1]] (wk [some 0] (.u4 (.c rfl (.u8 (.u4 (.u2 .nil))))) (.b rfl (.c rfl .nil) .nil) rfl) (bG aK [0] rfl (.cons (rfl) .nil) ?_))
   conv => whnf
   first | rfl | (simp; done) | (simp; rfl) | (simp; and_intros <;> rfl)
  refine .skip ?_
  conv => whnf
  refine k7 _ _ ?_
  refine .know 5 0 fun hv1 => ?_
  refine .know 0 0 fun hv2 => ?_
  refine rg 0 ?_
  conv => whnf
  refine ⟨(s1 + 1), by have := dn hv1; have := gX hv2; have h8 := of_decide_eq_true hc1; exact bD (by omega) (by omega), ?_⟩
  conv => whnf
  exact hKL1 _ _ _ hs1 (li (.s (.s (.u4 (.u (.s (.s (.u8 (.u2 .n)))))))))
 refine .exit ?_
 conv => whnf
 exact hR1 _ (sj hs1).symm _ _ (li (.u16 (.u2 (.u .n))))
theorem wG (n : Nat) (p0 : List Carrier) (p1 : Str) (r : Bool) (h : iR n p0 p1 = some r) : au Tryz.prog 207 [.slice (List.map ah p0) .shared, .func 208 [.ptr 0 0]] [.box [.str p1]] (.bool r) [.box [.str p1]] := by
 unfold iR at h
 refine aB true Tryz.func207 rfl (by rw [Tryz.ntmps207]; exact Nat.le_of_ble_eq_true rfl) fun Q hQ t ht => ?_
 conv at ht => whnf
 subst ht
 refine .q fun K1 k1 => ?_
 refine rg 0 ?_
 conv => whnf
 refine k1 _ _ ?_
 refine .q fun K2 k2 => ?_
 refine rg 0 ?_
 conv => whnf
 obtain ⟨x1, hx1, h⟩ := ob h
 refine bH [0] [] [.slice (List.map ah p0) .shared, .func 208 [.ptr 0 0]] [.slice (List.map ah p0) .shared, .func 208 [.ptr 0 0]] (yJ _ _ _ _ hx1) Xv rfl (.cons (rfl) .nil) (by simp; try decide) (.cons (.same _) (.cons (.same _) .nil)) (rn := .int .i64 x1) (rfl) (Hn := [.box [.str p1]]) ((bS (rfl) rfl)) ?_
 conv => whnf
 refine k2 _ _ ?_
 refine .ret ?_
 conv => whnf
 have e9 := sj h
 subst e9
 refine hQ _ _ _ (dZ (u4 (.bool (decide (0 ≤ x1)) :: (u4 []))) [.box [.str p1]] (wk [some 0] (.u4 (.c rfl (.u4 .nil))) (.b rfl (.c rfl .nil) .nil) rfl) (bG aK [0] rfl (.cons (rfl) .nil) ?_))
 conv => whnf
 first | rfl | (simp; done) | (simp; rfl) | (simp; and_intros <;> rfl)
theorem Ef (n : Nat) (p0 : Env) (p1 : Str) (r : Bool) (h : mF n p0 p1 = some r) : au Tryz.prog 156 [.agg [.slice (List.map ah p0.carriers) .shared, .slice (List.map ak p0.names) .shared], .str p1] [] (.bool r) [] := by
 unfold mF at h
 refine aB true Tryz.func156 rfl (by rw [Tryz.ntmps156]; exact Nat.le_of_ble_eq_true rfl) fun Q hQ t ht => ?_
 conv at ht => whnf
 subst ht
 refine .q fun K1 k1 => ?_
 refine rg 2 ?_
 conv => whnf
 refine k1 _ _ ?_
 refine .q fun K2 k2 => ?_
 refine rg 0 ?_
 conv => whnf
 obtain ⟨x1, hx1, h⟩ := ob h
 refine bH [1] [] [.slice (List.map ah p0.carriers) .shared, .func 208 [.ptr 0 0]] [.slice (List.map ah p0.carriers) .shared, .func 208 [.ptr 1 0]] (wG _ _ _ _ hx1) ac1 rfl (.cons (rfl) .nil) (by simp; try decide) (.cons (.same _) (.cons (.same _) .nil)) (rn := .bool x1) (rfl) (Hn := [.box [.str p1]]) ((bS (rfl) rfl)) ?_
 conv => whnf
 refine k2 _ _ ?_
 refine .ret ?_
 conv => whnf
 have e9 := sj h
 subst e9
 refine hQ _ _ _ (aG aK (fun g => rfl) ?_)
 conv => whnf
theorem Eu (n : Nat) (p0 : Str) (p1 : List Carrier) (p2 : List Decl) (r : Bool) (h : mD n p0 p1 p2 = some r) : au Tryz.prog 155 [.str p0, .ptr 0 0] [.box [.slice (List.map ah p1) .shared, .slice (List.map ak p2) .shared]] (.bool r) [.box [.slice (List.map ah p1) .shared, .slice (List.map ak p2) .shared]] := by
 unfold mD at h
 refine aB true Tryz.func155 rfl (by rw [Tryz.ntmps155]; exact Nat.le_of_ble_eq_true rfl) fun Q hQ t ht => ?_
 conv at ht => whnf
 subst ht
 refine .q fun K1 k1 => ?_
 refine rg 0 ?_
 conv => whnf
 refine k1 _ _ ?_
 refine .q fun K2 k2 => ?_
 refine rg 0 ?_
 conv => whnf
 obtain ⟨x1, hx1, h⟩ := ob h
 refine aD (Ef _ _ _ _ hx1) adC (.cons (.same _) (.cons (.same _) .nil)) (fun g => by simp) (fun g => rfl) ?_
 conv => whnf
 refine k2 _ _ ?_
 refine .ret ?_
 conv => whnf
 have e9 := sj h
 subst e9
 refine hQ _ _ _ (dZ (u2 (.unk :: (.bool (!x1) :: (u4 [])))) [.box [.slice (List.map ah p1) .shared, .slice (List.map ak p2) .shared]] (wk [some 0] (.u2 (.u (.c rfl (.u4 .nil)))) (.b rfl (.e aA (.e aF .nil)) .nil) rfl) (bG aK [0] rfl (.cons (by simp only [bM, ren, bC, bq, dh, bJ, aV, bE, bP, aZ, bQ, aA, aF, aI, aR, aJ, aS]; try rfl) .nil) ?_))
 conv => whnf
 first | rfl | (simp; done) | (simp; rfl) | (simp; and_intros <;> rfl)
theorem yV (n : Nat) (p0 : List Str) (p1 : List Carrier) (p2 : List Decl) (r : Int) (h : kP n p0 p1 p2 = some r) : au Tryz.prog 158 [.slice (List.map encS p0) .shared, .func 155 [.ptr 0 0]] [.box [.slice (List.map ah p1) .shared, .slice (List.map ak p2) .shared]] (.int .i64 r) [.box [.slice (List.map ah p1) .shared, .slice (List.map ak p2) .shared]] := by
 unfold kP at h
 refine aB true Tryz.func158 rfl (by rw [Tryz.ntmps158]; exact Nat.le_of_ble_eq_true rfl) fun Q hQ t ht => ?_
 conv at ht => whnf
 subst ht
 refine .q fun K1 k1 => ?_
 refine rg 0 ?_
 conv => whnf
 refine k1 _ _ ?_
 refine .q fun K2 k2 => ?_
 refine .q fun K3 k3 => ?_
 refine rg 0 ?_
 conv => whnf
 refine aQ (l := p0) (f := encS) ?_
 conv => whnf
 refine k3 _ _ ?_
 refine .block ?_
 obtain ⟨o1, ho1, h⟩ := ob h
 have hR1 : ∀ s2 : Unit, o1 = .nx s2 → ∀ t9 h9, Le 1 t9 h9 (u16 (u2 (.unk :: []))) [.box [.slice (List.map ah p1) .shared, .slice (List.map ak p2) .shared]] → K2 t9 h9 := by
  intro s2 ho
  subst ho
  dsimp only [LR.el] at h
  intro t9 h9 hw
  refine k2 _ _ (AW.le hw ?_)
  refine .q fun K4 k4 => ?_
  refine rg 0 ?_
  conv => whnf
  refine k4 _ _ ?_
  refine .ret ?_
  conv => whnf
  have e9 := sj h
  subst e9
  refine hQ _ _ _ (dZ (u4 (.int .i64 (-1) :: (u8 (u4 (u2 []))))) [.box [.slice (List.map ah p1) .shared, .slice (List.map ak p2) .shared]] (wk [some 0] (.u4 (.c rfl (.u8 (.u4 (.u2 .nil))))) (.b rfl (.e aA (.e aF .nil)) .nil) rfl) (bG aK [0] rfl (.cons (by simp only [bM, ren, bC, bq, dh, bJ, aV, bE, bP, aZ, bQ, aA, aF, aI, aR, aJ, aS]; try rfl) .nil) ?_))
  conv => whnf
  first | rfl | (simp; done) | (simp; rfl) | (simp; and_intros <;> rfl)
 refine .loopS (gG n p0 p1 p2) (fun (s1 : Int) => (.slice (List.map encS p0) .shared :: (.func 155 [.ptr 0 0] :: (u4 (.unk :: (.int .i64 (p0.length : Int) :: (.int .i64 s1 :: (u8 (u2 []))))))))) (fun (s1 : Int) => [.box [.slice (List.map ah p1) .shared, .slice (List.map ak p2) .shared]]) ho1 (fun _ => rfl) (li (.s (.s (.u4 (.u (.s (.s (.u8 (.u2 .n))))))))) ?_
 intro n1 s1 hs1 KL1 hKL1
 unfold gG at hs1
 refine .q fun K5 k5 => ?_
 refine rg 0 ?_
 conv => whnf
 refine k5 _ _ ?_
 refine .q fun K6 k6 => ?_
 refine .aL rfl hs1 (fun hc1 hs1 => ?_) (fun hc1 hs1 => ?_)
 ·refine .skip ?_
  conv => whnf
  refine k6 _ _ ?_
  refine .q fun K7 k7 => ?_
  refine .block ?_
  refine .q fun K8 k8 => ?_
  refine rg 0 ?_
  conv => whnf
  refine k8 _ _ ?_
  refine .q fun K9 k9 => ?_
  refine rg 0 ?_
  conv => whnf
  obtain ⟨x1, hx1, hs1⟩ := ob hs1
  refine aW (l := p0) (f := encS) (cs := [.str (x1)]) hx1 (rfl) rfl ?_
  conv => whnf
  obtain ⟨x2, hx2, hs1⟩ := ob hs1
  refine bH [0] [] [.str x1, .ptr 0 0] [.str x1, .ptr 0 0] (Eu _ _ _ _ _ hx2) adr rfl (.cons (by simp only [bM, ren, bC, bq, dh, bJ, aV, bE, bP, aZ, bQ, aA, aF, aI, aR, aJ, aS]; try rfl) .nil) (rfl) (.cons (.same _) (.cons (.same _) .nil)) (rn := .bool x2) (rfl) (Hn := [.box [.slice (List.map ah p1) .shared, .slice (List.map ak p2) .shared]]) ((bS (by simp only [bM, ren, bC, bq, dh, bJ, aV, bE, bP, aZ, bQ, aA, aF, aI, aR, aJ, aS]; try rfl) rfl)) ?_
  conv => whnf
  refine k9 _ _ ?_
  refine .aL rfl hs1 (fun hc2 hs1 => ?_) (fun hc2 hs1 => ?_)
  ·refine .q fun K10 k10 => ?_
   refine rg 0 ?_
   conv => whnf
   refine k10 _ _ ?_
   refine .ret ?_
   conv => whnf
   have e9 := sj hs1
   subst e9
   dsimp only [LR.el] at h
   have e9 := sj h
   subst e9
   refine hQ _ _ _ (dZ (u4 (.int .i64 s1 :: (u8 (u4 (u2 []))))) [.box [.slice (List.map ah p1) .shared, .slice (List.map ak p2) .shared]] (wk [some 0] (.u4 (.c rfl (.u8 (.u4 (.u2 .nil))))) (.b rfl (.e aA (.e aF .nil)) .nil) rfl) (bG aK [0] rfl (.cons (by simp only [bM, ren, bC, bq, dh, bJ, aV, bE, bP, aZ, bQ, aA, aF, aI, aR, aJ, aS]; try rfl) .nil) ?_))
   conv => whnf
   first | rfl | (simp; done) | (simp; rfl) | (simp; and_intros <;> rfl)
  refine .skip ?_
  conv => whnf
  refine k7 _ _ ?_
  refine .know 5 0 fun hv1 => ?_
  refine .know 0 0 fun hv2 => ?_
  refine rg 0 ?_
  conv => whnf
  refine ⟨(s1 + 1), by have := dn hv1; have := gX hv2; have h8 := of_decide_eq_true hc1; exact bD (by omega) (by omega), ?_⟩
  conv => whnf
  exact hKL1 _ _ _ hs1 (li (.s (.s (.u4 (.u (.s (.s (.u8 (.u2 .n)))))))))
 refine .exit ?_
 conv => whnf
 exact hR1 _ (sj hs1).symm _ _ (li (.u16 (.u2 (.u .n))))
theorem wV (n : Nat) (p0 : List Str) (p1 : List Carrier) (p2 : List Decl) (r : Bool) (h : jf n p0 p1 p2 = some r) : au Tryz.prog 94 [.slice (List.map encS p0) .shared, .func 155 [.ptr 0 0]] [.box [.slice (List.map ah p1) .shared, .slice (List.map ak p2) .shared]] (.bool r) [.box [.slice (List.map ah p1) .shared, .slice (List.map ak p2) .shared]] := by
 unfold jf at h
 refine aB true Tryz.func94 rfl (by rw [Tryz.ntmps94]; exact Nat.le_of_ble_eq_true rfl) fun Q hQ t ht => ?_
 conv at ht => whnf
 subst ht
 refine .q fun K1 k1 => ?_
 refine rg 0 ?_
 conv => whnf
 refine k1 _ _ ?_
 refine .q fun K2 k2 => ?_
 refine rg 0 ?_
 conv => whnf
 obtain ⟨x1, hx1, h⟩ := ob h
 refine bH [0] [] [.slice (List.map encS p0) .shared, .func 155 [.ptr 0 0]] [.slice (List.map encS p0) .shared, .func 155 [.ptr 0 0]] (yV _ _ _ _ _ hx1) Xe rfl (.cons (by simp only [bM, ren, bC, bq, dh, bJ, aV, bE, bP, aZ, bQ, aA, aF, aI, aR, aJ, aS]; try rfl) .nil) (by simp; try decide) (.cons (.same _) (.cons (.same _) .nil)) (rn := .int .i64 x1) (rfl) (Hn := [.box [.slice (List.map ah p1) .shared, .slice (List.map ak p2) .shared]]) ((bS (by simp only [bM, ren, bC, bq, dh, bJ, aV, bE, bP, aZ, bQ, aA, aF, aI, aR, aJ, aS]; try rfl) rfl)) ?_
 conv => whnf
 refine k2 _ _ ?_
 refine .ret ?_
 conv => whnf
 have e9 := sj h
 subst e9
 refine hQ _ _ _ (dZ (u4 (.bool (decide (0 ≤ x1)) :: (u4 []))) [.box [.slice (List.map ah p1) .shared, .slice (List.map ak p2) .shared]] (wk [some 0] (.u4 (.c rfl (.u4 .nil))) (.b rfl (.e aA (.e aF .nil)) .nil) rfl) (bG aK [0] rfl (.cons (by simp only [bM, ren, bC, bq, dh, bJ, aV, bE, bP, aZ, bQ, aA, aF, aI, aR, aJ, aS]; try rfl) .nil) ?_))
 conv => whnf
 first | rfl | (simp; done) | (simp; rfl) | (simp; and_intros <;> rfl)
theorem G8 (n : Nat) (p0 : Env) (p1 : Ty) (r : Bool) (h : iY n p0 p1 = some r) : au Tryz.prog 90 [.agg [.slice (List.map ah p0.carriers) .shared, .slice (List.map ak p0.names) .shared], .agg [.int .i64 p1.kind, .str p1.name, .slice (List.map aC p1.kids) .shared]] [] (.bool r) [] := by
 unfold iY at h
 refine aB true Tryz.func90 rfl (by rw [Tryz.ntmps90]; exact Nat.le_of_ble_eq_true rfl) fun Q hQ t ht => ?_
 conv at ht => whnf
 subst ht
 refine .q fun K1 k1 => ?_
 refine rg 2 ?_
 conv => whnf
 refine k1 _ _ ?_
 refine .q fun K2 k2 => ?_
 refine rg 0 ?_
 conv => whnf
 obtain ⟨x1, hx1, h⟩ := ob h
 refine aD (yK _ _ _ hx1) ZK (.cons (.same _) .nil) (fun g => by simp) (fun g => by simp) ?_
 conv => whnf
 obtain ⟨x2, hx2, h⟩ := ob h
 refine bH [0] [] [.slice (List.map encS x1) .shared, .func 155 [.ptr 0 0]] [.slice (List.map encS x1) .shared, .func 155 [.ptr 0 0]] (wV _ _ _ _ _ hx2) ZU rfl (.cons (by simp only [bM, ren, bC, bq, dh, bJ, aV, bE, bP, aZ, bQ, aA, aF, aI, aR, aJ, aS]; try rfl) .nil) (by simp; try decide) (.cons (.same _) (.cons (.same _) .nil)) (rn := .bool x2) (rfl) (Hn := [.box [.slice (List.map ah p0.carriers) .shared, .slice (List.map ak p0.names) .shared]]) ((bS (by simp only [bM, ren, bC, bq, dh, bJ, aV, bE, bP, aZ, bQ, aA, aF, aI, aR, aJ, aS]; try rfl) rfl)) ?_
 conv => whnf
 refine k2 _ _ ?_
 refine .ret ?_
 conv => whnf
 have e9 := sj h
 subst e9
 refine hQ _ _ _ (aG aK (fun g => rfl) ?_)
 conv => whnf
theorem e6x0 {p q : Prop} (f : p → q) (h : p := by exact wk [] (.u (.e aV (.u8 (.u4 (.e aA (.c rfl (.c rfl (.u16 (.u8 (.u4 (.u2 (.u (.c rfl (.u .nil)))))))))))))) .nil rfl) : q := f h
theorem uX (n : Nat) (p0 : Env) (p1 : List Int) (r : Bool) (h : mg n p0 p1 = some r) : au Tryz.prog 43 [.agg [.slice (List.map ah p0.carriers) .shared, .slice (List.map ak p0.names) .shared], .slice (List.map encI p1) .shared] [] (.bool r) [] := by
 unfold mg at h
 refine aB true Tryz.func43 rfl (by rw [Tryz.ntmps43]; exact Nat.le_of_ble_eq_true rfl) fun Q hQ t ht => ?_
 conv at ht => whnf
 subst ht
 refine .q fun K1 k1 => ?_
 refine rg 1 ?_
 conv => whnf
 refine k1 _ _ ?_
 refine .q fun K2 k2 => ?_
 refine .q fun K3 k3 => ?_
 refine rg 0 ?_
 conv => whnf
 refine aQ (l := p1) (f := encI) ?_
 conv => whnf
 refine aQ (l := p0.carriers) (f := ah) ?_
 conv => whnf
 refine k3 _ _ ?_
 refine .aL rfl h (fun hc1 h => ?_) (fun hc1 h => ?_)
 ·refine .q fun K4 k4 => ?_
  refine rg 0 ?_
  conv => whnf
  refine k4 _ _ ?_
  refine .ret ?_
  conv => whnf
  have e9 := sj h
  subst e9
  refine hQ _ _ _ (aG aK (fun g => rfl) ?_)
  conv => whnf
 refine .skip ?_
 conv => whnf
 refine k2 _ _ ?_
 refine .q fun K5 k5 => ?_
 refine .q fun K6 k6 => ?_
 refine rg 0 ?_
 conv => whnf
 refine aQ (l := p0.carriers) (f := ah) ?_
 conv => whnf
 refine k6 _ _ ?_
 refine .block ?_
 obtain ⟨o1, ho1, h⟩ := ob h
 have hR1 : ∀ s2 : Unit, o1 = .nx s2 → ∀ t9 h9, Le 0 t9 h9 (u32 (u16 (u2 []))) [] → K5 t9 h9 := by
  intro s2 ho
  subst ho
  dsimp only [LR.el] at h
  intro t9 h9 hw
  refine k5 _ _ (AW.le hw ?_)
  refine .q fun K7 k7 => ?_
  refine rg 0 ?_
  conv => whnf
  refine k7 _ _ ?_
  refine .ret ?_
  conv => whnf
  have e9 := sj h
  subst e9
  refine hQ _ _ _ (aG aK (fun g => rfl) ?_)
  conv => whnf
 refine .loopS (jo n p0 p1) (fun (s1 : Int) => (.unk :: (.slice (List.map encI p1) .shared :: (u8 (u4 (.slice (List.map ah p0.carriers) .shared :: (.int .i64 (p0.carriers.length : Int) :: (.int .i64 s1 :: (u32 (.unk :: [])))))))))) (fun (s1 : Int) => []) ho1 (fun _ => rfl) (wk [] (.u (.e aV (.u8 (.u4 (.e aA (.c rfl (.c rfl (.u32 (.u .nil))))))))) .nil rfl) ?_
 intro n1 s1 hs1 KL1 hKL1
 unfold jo at hs1
 refine .q fun K8 k8 => ?_
 refine rg 0 ?_
 conv => whnf
 refine k8 _ _ ?_
 refine .q fun K9 k9 => ?_
 refine .aL rfl hs1 (fun hc2 hs1 => ?_) (fun hc2 hs1 => ?_)
 ·refine .skip ?_
  conv => whnf
  refine k9 _ _ ?_
  refine .q fun K10 k10 => ?_
  refine .block ?_
  refine .q fun K11 k11 => ?_
  refine rg 1 ?_
  conv => whnf
  obtain ⟨x1, hx1, hs1⟩ := ob hs1
  refine aW (l := p0.carriers) (f := ah) (cs := [.str ((x1).name), .slice (List.map encS ((x1).elems)) .shared]) hx1 (rfl) rfl ?_
  conv => whnf
  refine k11 _ _ ?_
  refine .q fun K12 k12 => ?_
  obtain ⟨s3, hj1, hs1⟩ := ob hs1
  have hR2 : ∀ t9 h9, Le 0 t9 h9 (.unk :: (.slice (List.map encI p1) .shared :: (u8 (u4 (.slice (List.map ah p0.carriers) .shared :: (.int .i64 (p0.carriers.length : Int) :: (.int .i64 s1 :: (u16 (u8 (u4 (u2 (.unk :: (.bool s3 :: (.unk :: [])))))))))))))) [] → K12 t9 h9 := by
   intro t9 h9 hw
   refine k12 _ _ (AW.le hw ?_)
   clear hw
   refine .aL rfl hs1 (fun hc3 hs1 => ?_) (fun hc3 hs1 => ?_)
   ·refine .q fun K13 k13 => ?_
    refine rg 0 ?_
    conv => whnf
    refine k13 _ _ ?_
    refine .ret ?_
    conv => whnf
    have e9 := sj hs1
    subst e9
    dsimp only [LR.el] at h
    have e9 := sj h
    subst e9
    refine hQ _ _ _ (aG aK (fun g => rfl) ?_)
    conv => whnf
   refine .skip ?_
   conv => whnf
   refine k10 _ _ ?_
   refine .know 16 0 fun hv1 => ?_
   refine .know 14 0 fun hv2 => ?_
   refine rg 0 ?_
   conv => whnf
   refine ⟨(s1 + 1), by have := dn hv1; have := gX hv2; have h8 := of_decide_eq_true hc2; exact bD (by omega) (by omega), ?_⟩
   conv => whnf
   exact hKL1 _ _ _ hs1 (li (.u (.s (.u8 (.u4 (.s (.s (.s (.u16 (.u16 (.u .n)))))))))))
  refine rg 0 ?_
  conv => whnf
  obtain ⟨x2, hx2, hj1⟩ := ob hj1
  refine aW (l := p1) (f := encI) (cs := [.int .i64 (x2)]) hx2 (rfl) rfl ?_
  conv => whnf
  refine aH hj1 (fun hc4 hj1 => ?_) (fun hc4 hj1 => ?_)
  ·conv => whnf
   refine ⟨by kernel_rfl, ?_⟩
   conv => whnf
   cases hj1
   exact e6x0 (hR2 _ _)
  conv => whnf
  obtain ⟨x3, hx3, hj1⟩ := ob hj1
  refine aW (l := p1) (f := encI) (cs := [.int .i64 (x3)]) hx3 (rfl) rfl ?_
  conv => whnf
  refine aH hj1 (fun hc5 hj1 => ?_) (fun hc5 hj1 => ?_)
  ·conv => whnf
   refine ⟨by kernel_rfl, ?_⟩
   conv => whnf
   cases hj1
   exact e6x0 (hR2 _ _)
  conv => whnf
  refine aQ (l := x1.elems) (f := encS) ?_
  conv => whnf
  refine aH hj1 (fun hc6 hj1 => ?_) (fun hc6 hj1 => ?_)
  ·conv => whnf
   obtain ⟨x4, hx4, hj1⟩ := ob hj1
   refine aW (l := p1) (f := encI) (cs := [.int .i64 (x4)]) hx4 (rfl) rfl ?_
   conv => whnf
   refine aQ (l := x1.elems) (f := encS) ?_
   conv => whnf
   refine ⟨by kernel_rfl, ?_⟩
   conv => whnf
   cases hj1
   exact e6x0 (hR2 _ _)
  conv => whnf
  refine ⟨by kernel_rfl, ?_⟩
  conv => whnf
  cases hj1
  exact e6x0 (hR2 _ _)
 refine .exit ?_
 conv => whnf
 exact hR1 _ (sj hs1).symm _ _ (li (.u16 (.u16 (.u16 (.u2 .n)))))
theorem MV (n : Nat) (p0 : Carrier) (p1 : Str) (r : Bool) (h : He n p0 p1 = some r) : au Tryz.prog 120 [.agg [.str p0.name, .slice (List.map encS p0.elems) .shared], .ptr 0 0] [.box [.str p1]] (.bool r) [.box [.str p1]] := by
 unfold He at h
 refine aB true Tryz.func120 rfl (by rw [Tryz.ntmps120]; exact Nat.le_of_ble_eq_true rfl) fun Q hQ t ht => ?_
 conv at ht => whnf
 subst ht
 refine .q fun K1 k1 => ?_
 refine rg 1 ?_
 conv => whnf
 refine k1 _ _ ?_
 refine .q fun K2 k2 => ?_
 refine rg 0 ?_
 conv => whnf
 refine k2 _ _ ?_
 refine .ret ?_
 conv => whnf
 have e9 := sj h
 subst e9
 refine hQ _ _ _ (dZ (u2 (.unk :: (.bool (p0.name == p1) :: (u4 [])))) [.box [.str p1]] (wk [some 0] (.u2 (.u (.c rfl (.u4 .nil)))) (.b rfl (.c rfl .nil) .nil) rfl) (bG aK [0] rfl (.cons (rfl) .nil) ?_))
 conv => whnf
 first | rfl | (simp; done) | (simp; rfl) | (simp; and_intros <;> rfl)
theorem vU (n : Nat) (p0 : List Carrier) (p1 : Str) (r : Int) (h : iT n p0 p1 = some r) : au Tryz.prog 119 [.slice (List.map ah p0) .shared, .func 120 [.ptr 0 0]] [.box [.str p1]] (.int .i64 r) [.box [.str p1]] := by
 unfold iT at h
 refine aB true Tryz.func119 rfl (by rw [Tryz.ntmps119]; exact Nat.le_of_ble_eq_true rfl) fun Q hQ t ht => ?_
 conv at ht => whnf
 subst ht
 refine .q fun K1 k1 => ?_
 refine rg 0 ?_
 conv => whnf
 refine k1 _ _ ?_
 refine .q fun K2 k2 => ?_
 refine .q fun K3 k3 => ?_
 refine rg 0 ?_
 conv => whnf
 refine aQ (l := p0) (f := ah) ?_
 conv => whnf
 refine k3 _ _ ?_
 refine .block ?_
 obtain ⟨o1, ho1, h⟩ := ob h
 have hR1 : ∀ s2 : Unit, o1 = .nx s2 → ∀ t9 h9, Le 1 t9 h9 (u16 (u2 (.unk :: []))) [.box [.str p1]] → K2 t9 h9 := by
  intro s2 ho
  subst ho
  dsimp only [LR.el] at h
  intro t9 h9 hw
  refine k2 _ _ (AW.le hw ?_)
  refine .q fun K4 k4 => ?_
  refine rg 0 ?_
  conv => whnf
  refine k4 _ _ ?_
  refine .ret ?_
  conv => whnf
  have e9 := sj h
  subst e9
  refine hQ _ _ _ (dZ (u4 (.int .i64 (-1) :: (u8 (u4 (u2 []))))) [.box [.str p1]] (wk [some 0] (.u4 (.c rfl (.u8 (.u4 (.u2 .nil))))) (.b rfl (.c rfl .nil) .nil) rfl) (bG aK [0] rfl (.cons (rfl) .nil) ?_))
  conv => whnf
  first | rfl | (simp; done) | (simp; rfl) | (simp; and_intros <;> rfl)
 refine .loopS (fF n p0 p1) (fun (s1 : Int) => (.slice (List.map ah p0) .shared :: (.func 120 [.ptr 0 0] :: (u4 (.unk :: (.int .i64 (p0.length : Int) :: (.int .i64 s1 :: (u8 (u2 []))))))))) (fun (s1 : Int) => [.box [.str p1]]) ho1 (fun _ => rfl) (li (.s (.s (.u4 (.u (.s (.s (.u8 (.u2 .n))))))))) ?_
 intro n1 s1 hs1 KL1 hKL1
 unfold fF at hs1
 refine .q fun K5 k5 => ?_
 refine rg 0 ?_
 conv => whnf
 refine k5 _ _ ?_
 refine .q fun K6 k6 => ?_
 refine .aL rfl hs1 (fun hc1 hs1 => ?_) (fun hc1 hs1 => ?_)
 ·refine .skip ?_
  conv => whnf
  refine k6 _ _ ?_
  refine .q fun K7 k7 => ?_
  refine .block ?_
  refine .q fun K8 k8 => ?_
  refine rg 0 ?_
  conv => whnf
  refine k8 _ _ ?_
  refine .q fun K9 k9 => ?_
  refine rg 0 ?_
  conv => whnf
  obtain ⟨x1, hx1, hs1⟩ := ob hs1
  refine aW (l := p0) (f := ah) (cs := [.str ((x1).name), .slice (List.map encS ((x1).elems)) .shared]) hx1 (rfl) rfl ?_
  conv => whnf
  refine bH [0] [] [.agg [.str x1.name, .slice (List.map encS x1.elems) .shared], .ptr 0 0] [.agg [.str x1.name, .slice (List.map encS x1.elems) .shared], .ptr 0 0] (MV 0 x1 p1 _ rfl) adA rfl (.cons (rfl) .nil) (by simp; try decide) (.cons (.same _) (.cons (.same _) .nil)) (rn := .bool (x1.name == p1)) (rfl) (Hn := [.box [.str p1]]) ((bS (rfl) rfl)) ?_
  conv => whnf
  refine k9 _ _ ?_
  refine .aL rfl hs1 (fun hc2 hs1 => ?_) (fun hc2 hs1 => ?_)
  ·refine .q fun K10 k10 => ?_
   refine rg 0 ?_
   conv => whnf
   refine k10 _ _ ?_
   refine .ret ?_
   conv => whnf
   have e9 := sj hs1
   subst e9
   dsimp only [LR.el] at h
   have e9 := sj h
   subst e9
   refine hQ _ _ _ (dZ (u4 (.int .i64 s1 :: (u8 (u4 (u2 []))))) [.box [.str p1]] (wk [some 0] (.u4 (.c rfl (.u8 (.u4 (.u2 .nil))))) (.b rfl (.c rfl .nil) .nil) rfl) (bG aK [0] rfl (.cons (rfl) .nil) ?_))
   conv => whnf
   first | rfl | (simp; done) | (simp; rfl) | (simp; and_intros <;> rfl)
  refine .skip ?_
  conv => whnf
  refine k7 _ _ ?_
  refine .know 5 0 fun hv1 => ?_
  refine .know 0 0 fun hv2 => ?_
  refine rg 0 ?_
  conv => whnf
  refine ⟨(s1 + 1), by have := dn hv1; have := gX hv2; have h8 := of_decide_eq_true hc1; exact bD (by omega) (by omega), ?_⟩
  conv => whnf
  exact hKL1 _ _ _ hs1 (li (.s (.s (.u4 (.u (.s (.s (.u8 (.u2 .n)))))))))
 refine .exit ?_
 conv => whnf
 exact hR1 _ (sj hs1).symm _ _ (li (.u16 (.u2 (.u .n))))
theorem EI (n : Nat) (p0 : Env) (p1 : Str) (r : Int) (h : tu n p0 p1 = some r) : au Tryz.prog 67 [.agg [.slice (List.map ah p0.carriers) .shared, .slice (List.map ak p0.names) .shared], .str p1] [] (.int .i64 r) [] := by
 unfold tu at h
 refine aB true Tryz.func67 rfl (by rw [Tryz.ntmps67]; exact Nat.le_of_ble_eq_true rfl) fun Q hQ t ht => ?_
 conv at ht => whnf
 subst ht
 refine .q fun K1 k1 => ?_
 refine rg 2 ?_
 conv => whnf
 refine k1 _ _ ?_
 refine .q fun K2 k2 => ?_
 refine rg 0 ?_
 conv => whnf
 obtain ⟨x1, hx1, h⟩ := ob h
 refine bH [1] [] [.slice (List.map ah p0.carriers) .shared, .func 120 [.ptr 0 0]] [.slice (List.map ah p0.carriers) .shared, .func 120 [.ptr 1 0]] (vU _ _ _ _ hx1) Xv rfl (.cons (rfl) .nil) (by simp; try decide) (.cons (.same _) (.cons (.same _) .nil)) (rn := .int .i64 x1) (rfl) (Hn := [.box [.str p1]]) ((bS (rfl) rfl)) ?_
 conv => whnf
 refine k2 _ _ ?_
 refine .ret ?_
 conv => whnf
 have e9 := sj h
 subst e9
 refine hQ _ _ _ (aG aK (fun g => rfl) ?_)
 conv => whnf
theorem zT (n : Nat) (p0 : Int) (r : Bool) (h : cmp_isNaN_int n p0 = some r) : au Tryz.prog 114 [.int .i64 p0] [] (.bool r) [] := by
 unfold cmp_isNaN_int at h
 refine aB true Tryz.func114 rfl (by rw [Tryz.ntmps114]; exact Nat.le_of_ble_eq_true rfl) fun Q hQ t ht => ?_
 conv at ht => whnf
 subst ht
 refine .q fun K1 k1 => ?_
 refine rg 0 ?_
 conv => whnf
 refine k1 _ _ ?_
 refine .q fun K2 k2 => ?_
 refine rg 0 ?_
 conv => whnf
 refine k2 _ _ ?_
 refine .ret ?_
 conv => whnf
 have e9 := sj h
 subst e9
 refine hQ _ _ _ (aG aK (fun g => rfl) ?_)
 conv => whnf
theorem yD (n : Nat) (p0 : Int) (p1 : Int) (r : Int) (h : cmp_Compare_int n p0 p1 = some r) : au Tryz.prog 60 [.int .i64 p0, .int .i64 p1] [] (.int .i64 r) [] := by
 unfold cmp_Compare_int at h
 refine aB true Tryz.func60 rfl (by rw [Tryz.ntmps60]; exact Nat.le_of_ble_eq_true rfl) fun Q hQ t ht => ?_
 conv at ht => whnf
 subst ht
 refine .q fun K1 k1 => ?_
 refine rg 0 ?_
 conv => whnf
 refine k1 _ _ ?_
 refine .q fun K2 k2 => ?_
 refine rg 0 ?_
 conv => whnf
 refine aD (zT 0 p0 _ rfl) WY (.cons (.same _) .nil) (fun g => rfl) (fun g => rfl) ?_
 conv => whnf
 refine k2 _ _ ?_
 refine .q fun K3 k3 => ?_
 refine rg 0 ?_
 conv => whnf
 refine aD (zT 0 p1 _ rfl) WY (.cons (.same _) .nil) (fun g => rfl) (fun g => rfl) ?_
 conv => whnf
 refine k3 _ _ ?_
 refine .q fun K4 k4 => ?_
 refine .q fun K5 k5 => ?_
 refine rg 0 ?_
 conv => whnf
 refine k5 _ _ ?_
 refine .aL rfl h (fun hc1 h => ?_) (fun hc1 h => ?_)
 ·refine .q fun K6 k6 => ?_
  refine .q fun K7 k7 => ?_
  refine rg 0 ?_
  conv => whnf
  refine k7 _ _ ?_
  refine .aL rfl h (fun hc2 h => ?_) (fun hc2 h => ?_)
  ·refine .q fun K8 k8 => ?_
   refine rg 0 ?_
   conv => whnf
   refine k8 _ _ ?_
   refine .ret ?_
   conv => whnf
   have e9 := sj h
   subst e9
   refine hQ _ _ _ (aG aK (fun g => rfl) ?_)
   conv => whnf
  refine .skip ?_
  conv => whnf
  refine k6 _ _ ?_
  refine .q fun K9 k9 => ?_
  refine rg 0 ?_
  conv => whnf
  refine k9 _ _ ?_
  refine .ret ?_
  conv => whnf
  have e9 := sj h
  subst e9
  refine hQ _ _ _ (aG aK (fun g => rfl) ?_)
  conv => whnf
 refine .skip ?_
 conv => whnf
 refine k4 _ _ ?_
 refine .q fun K10 k10 => ?_
 refine .q fun K11 k11 => ?_
 refine rg 0 ?_
 conv => whnf
 refine k11 _ _ ?_
 refine .aL rfl h (fun hc3 h => ?_) (fun hc3 h => ?_)
 ·refine .q fun K12 k12 => ?_
  refine rg 0 ?_
  conv => whnf
  refine k12 _ _ ?_
  refine .ret ?_
  conv => whnf
  have e9 := sj h
  subst e9
  refine hQ _ _ _ (aG aK (fun g => rfl) ?_)
  conv => whnf
 refine .skip ?_
 conv => whnf
 refine k10 _ _ ?_
 refine .q fun K13 k13 => ?_
 refine .q fun K14 k14 => ?_
 refine rg 0 ?_
 conv => whnf
 refine k14 _ _ ?_
 refine .aL rfl h (fun hc4 h => ?_) (fun hc4 h => ?_)
 ·refine .q fun K15 k15 => ?_
  refine rg 0 ?_
  conv => whnf
  refine k15 _ _ ?_
  refine .ret ?_
  conv => whnf
  have e9 := sj h
  subst e9
  refine hQ _ _ _ (aG aK (fun g => rfl) ?_)
  conv => whnf
 refine .skip ?_
 conv => whnf
 refine k13 _ _ ?_
 refine .q fun K16 k16 => ?_
 refine .q fun K17 k17 => ?_
 refine rg 0 ?_
 conv => whnf
 refine k17 _ _ ?_
 refine .aL rfl h (fun hc5 h => ?_) (fun hc5 h => ?_)
 ·refine .q fun K18 k18 => ?_
  refine rg 0 ?_
  conv => whnf
  refine k18 _ _ ?_
  refine .ret ?_
  conv => whnf
  have e9 := sj h
  subst e9
  refine hQ _ _ _ (aG aK (fun g => rfl) ?_)
  conv => whnf
 refine .skip ?_
 conv => whnf
 refine k16 _ _ ?_
 refine .q fun K19 k19 => ?_
 refine rg 0 ?_
 conv => whnf
 refine k19 _ _ ?_
 refine .ret ?_
 conv => whnf
 have e9 := sj h
 subst e9
 refine hQ _ _ _ (aG aK (fun g => rfl) ?_)
 conv => whnf
end Abs
end Go.Proofs.YtkopaeklihhdlaaGreat
