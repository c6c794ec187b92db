/-
  Contracts of Go functions (printed). Conditions: none.
-/
import Derived.KernelRfl
import Derived.Test.YtkopaeklihhdlaaGreatCE3oxe87db8
set_option linter.unusedSimpArgs false
set_option linter.unusedVariables false
namespace Go.Proofs.YtkopaeklihhdlaaGreat
namespace Abs
open Go Go.Proofs
set_option maxRecDepth 100000
set_option maxHeartbeats 40000000
theorem e6x0 {p q : Prop} (f : p → q) (h : p := by exact wk [] (.u (.e bB (.u8 (.u4 (.e aF (.c rfl (.c rfl (.u16 (.u8 (.u4 (.u2 (.u (.c rfl (.u .nil)))))))))))))) .nil rfl) : q := f h
theorem rz (n : Nat) (p0 : Env) (p1 : List Int) (r : Bool) (h : kV n p0 p1 = some r) : aj Tryz.prog 43 [.agg [.slice (List.map ah p0.carriers) .shared, .slice (List.map aA p0.names) .shared], .slice (List.map encI p1) .shared] [] (.bool r) [] := by
 unfold kV at h
 refine aB true Tryz.func43 rfl (by rw [Tryz.ntmps43]; exact Nat.le_of_ble_eq_true rfl) fun Q hQ t ht => ?_
 conv at ht => whnf
 subst ht
 refine .q fun K1 k1 => ?_
 refine rg 1 ?_
 conv => whnf
 refine k1 _ _ ?_
 refine .q fun K2 k2 => ?_
 refine .q fun K3 k3 => ?_
 refine rg 0 ?_
 conv => whnf
 refine aU (l := p1) (f := encI) ?_
 conv => whnf
 refine aU (l := p0.carriers) (f := ah) ?_
 conv => whnf
 refine k3 _ _ ?_
 refine .aM rfl h (fun hc1 h => ?_) (fun hc1 h => ?_)
 ·refine .q fun K4 k4 => ?_
  refine rg 0 ?_
  conv => whnf
  refine k4 _ _ ?_
  refine .ret ?_
  conv => whnf
  have e9 := sj h
  subst e9
  refine hQ _ _ _ (aH aI (fun g => rfl) ?_)
  conv => whnf
 refine .skip ?_
 conv => whnf
 refine k2 _ _ ?_
 refine .q fun K5 k5 => ?_
 refine .q fun K6 k6 => ?_
 refine rg 0 ?_
 conv => whnf
 refine aU (l := p0.carriers) (f := ah) ?_
 conv => whnf
 refine k6 _ _ ?_
 refine .block ?_
 obtain ⟨o1, ho1, h⟩ := ob h
 have hR1 : ∀ s2 : Unit, o1 = .nx s2 → ∀ t9 h9, Le 0 t9 h9 (u32 (u16 (u2 []))) [] → K5 t9 h9 := by
  intro s2 ho
  subst ho
  dsimp only [LR.el] at h
  intro t9 h9 hw
  refine k5 _ _ (AW.le hw ?_)
  refine .q fun K7 k7 => ?_
  refine rg 0 ?_
  conv => whnf
  refine k7 _ _ ?_
  refine .ret ?_
  conv => whnf
  have e9 := sj h
  subst e9
  refine hQ _ _ _ (aH aI (fun g => rfl) ?_)
  conv => whnf
 refine .loopS (iN n p0 p1) (fun (s1 : Int) => (.unk :: (.slice (List.map encI p1) .shared :: (u8 (u4 (.slice (List.map ah p0.carriers) .shared :: (.int .i64 (p0.carriers.length : Int) :: (.int .i64 s1 :: (u32 (.unk :: [])))))))))) (fun (s1 : Int) => []) ho1 (fun _ => rfl) (wk [] (.u (.e bB (.u8 (.u4 (.e aF (.c rfl (.c rfl (.u32 (.u .nil))))))))) .nil rfl) ?_
 intro n1 s1 hs1 KL1 hKL1
 unfold iN at hs1
 refine .q fun K8 k8 => ?_
 refine rg 0 ?_
 conv => whnf
 refine k8 _ _ ?_
 refine .q fun K9 k9 => ?_
 refine .aM rfl hs1 (fun hc2 hs1 => ?_) (fun hc2 hs1 => ?_)
 ·refine .skip ?_
  conv => whnf
  refine k9 _ _ ?_
  refine .q fun K10 k10 => ?_
  refine .block ?_
  refine .q fun K11 k11 => ?_
  refine rg 1 ?_
  conv => whnf
  obtain ⟨x1, hx1, hs1⟩ := ob hs1
  refine bA (l := p0.carriers) (f := ah) (cs := [.str ((x1).name), .slice (List.map encS ((x1).elems)) .shared]) hx1 (rfl) rfl ?_
  conv => whnf
  refine k11 _ _ ?_
  refine .q fun K12 k12 => ?_
  obtain ⟨s3, hj1, hs1⟩ := ob hs1
  have hR2 : ∀ t9 h9, Le 0 t9 h9 (.unk :: (.slice (List.map encI p1) .shared :: (u8 (u4 (.slice (List.map ah p0.carriers) .shared :: (.int .i64 (p0.carriers.length : Int) :: (.int .i64 s1 :: (u16 (u8 (u4 (u2 (.unk :: (.bool s3 :: (.unk :: [])))))))))))))) [] → K12 t9 h9 := by
   intro t9 h9 hw
   refine k12 _ _ (AW.le hw ?_)
   clear hw
   refine .aM rfl hs1 (fun hc3 hs1 => ?_) (fun hc3 hs1 => ?_)
   ·refine .q fun K13 k13 => ?_
    refine rg 0 ?_
    conv => whnf
    refine k13 _ _ ?_
    refine .ret ?_
    conv => whnf
    have e9 := sj hs1
    subst e9
    dsimp only [LR.el] at h
    have e9 := sj h
    subst e9
    refine hQ _ _ _ (aH aI (fun g => rfl) ?_)
    conv => whnf
   refine .skip ?_
   conv => whnf
   refine k10 _ _ ?_
   refine .know 16 0 fun hv1 => ?_
   refine .know 14 0 fun hv2 => ?_
   refine rg 0 ?_
   conv => whnf
   refine ⟨(s1 + 1), by have := fQ hv1; have := ko hv2; have h8 := of_decide_eq_true hc2; exact bT (by omega) (by omega), ?_⟩
   conv => whnf
   exact hKL1 _ _ _ hs1 (li (.u (.s (.u8 (.u4 (.s (.s (.s (.u16 (.u16 (.u .n)))))))))))
  refine rg 0 ?_
  conv => whnf
  obtain ⟨x2, hx2, hj1⟩ := ob hj1
  refine bA (l := p1) (f := encI) (cs := [.int .i64 (x2)]) hx2 (rfl) rfl ?_
  conv => whnf
  refine aD hj1 (fun hc4 hj1 => ?_) (fun hc4 hj1 => ?_)
  ·conv => whnf
   refine ⟨by kernel_rfl, ?_⟩
   conv => whnf
   cases hj1
   exact e6x0 (hR2 _ _)
  conv => whnf
  obtain ⟨x3, hx3, hj1⟩ := ob hj1
  refine bA (l := p1) (f := encI) (cs := [.int .i64 (x3)]) hx3 (rfl) rfl ?_
  conv => whnf
  refine aD hj1 (fun hc5 hj1 => ?_) (fun hc5 hj1 => ?_)
  ·conv => whnf
   refine ⟨by kernel_rfl, ?_⟩
   conv => whnf
   cases hj1
   exact e6x0 (hR2 _ _)
  conv => whnf
  refine aU (l := x1.elems) (f := encS) ?_
  conv => whnf
  refine aD hj1 (fun hc6 hj1 => ?_) (fun hc6 hj1 => ?_)
  ·conv => whnf
   obtain ⟨x4, hx4, hj1⟩ := ob hj1
   refine bA (l := p1) (f := encI) (cs := [.int .i64 (x4)]) hx4 (rfl) rfl ?_
   conv => whnf
   refine aU (l := x1.elems) (f := encS) ?_
   conv => whnf
   refine ⟨by kernel_rfl, ?_⟩
   conv => whnf
   cases hj1
   exact e6x0 (hR2 _ _)
  conv => whnf
  refine ⟨by kernel_rfl, ?_⟩
  conv => whnf
  cases hj1
  exact e6x0 (hR2 _ _)
 refine .exit ?_
 conv => whnf
 exact hR1 _ (sj hs1).symm _ _ (li (.u16 (.u16 (.u16 (.u2 .n)))))
theorem Gf (n : Nat) (p0 : Carrier) (p1 : Str) (r : Bool) (h : Ch n p0 p1 = some r) : aj Tryz.prog 120 [.agg [.str p0.name, .slice (List.map encS p0.elems) .shared], .ptr 0 0] [.box [.str p1]] (.bool r) [.box [.str p1]] := by
 unfold Ch at h
 refine aB true Tryz.func120 rfl (by rw [Tryz.ntmps120]; exact Nat.le_of_ble_eq_true rfl) fun Q hQ t ht => ?_
 conv at ht => whnf
 subst ht
 refine .q fun K1 k1 => ?_
 refine rg 1 ?_
 conv => whnf
 refine k1 _ _ ?_
 refine .q fun K2 k2 => ?_
 refine rg 0 ?_
 conv => whnf
 refine k2 _ _ ?_
 refine .ret ?_
 conv => whnf
 have e9 := sj h
 subst e9
 refine hQ _ _ _ (fF (u2 (.unk :: (.bool (p0.name == p1) :: (u4 [])))) [.box [.str p1]] (wk [some 0] (.u2 (.u (.c rfl (.u4 .nil)))) (.b rfl (.c rfl .nil) .nil) rfl) (bP aI [0] rfl (.cons (rfl) .nil) ?_))
 conv => whnf
 first | rfl | (simp; done) | (simp; rfl) | (simp; and_intros <;> rfl)
theorem sM (n : Nat) (p0 : List Carrier) (p1 : Str) (r : Int) (h : iD n p0 p1 = some r) : aj Tryz.prog 119 [.slice (List.map ah p0) .shared, .func 120 [.ptr 0 0]] [.box [.str p1]] (.int .i64 r) [.box [.str p1]] := by
 unfold iD at h
 refine aB true Tryz.func119 rfl (by rw [Tryz.ntmps119]; exact Nat.le_of_ble_eq_true rfl) fun Q hQ t ht => ?_
 conv at ht => whnf
 subst ht
 refine .q fun K1 k1 => ?_
 refine rg 0 ?_
 conv => whnf
 refine k1 _ _ ?_
 refine .q fun K2 k2 => ?_
 refine .q fun K3 k3 => ?_
 refine rg 0 ?_
 conv => whnf
 refine aU (l := p0) (f := ah) ?_
 conv => whnf
 refine k3 _ _ ?_
 refine .block ?_
 obtain ⟨o1, ho1, h⟩ := ob h
 have hR1 : ∀ s2 : Unit, o1 = .nx s2 → ∀ t9 h9, Le 1 t9 h9 (u16 (u2 (.unk :: []))) [.box [.str p1]] → K2 t9 h9 := by
  intro s2 ho
  subst ho
  dsimp only [LR.el] at h
  intro t9 h9 hw
  refine k2 _ _ (AW.le hw ?_)
  refine .q fun K4 k4 => ?_
  refine rg 0 ?_
  conv => whnf
  refine k4 _ _ ?_
  refine .ret ?_
  conv => whnf
  have e9 := sj h
  subst e9
  refine hQ _ _ _ (fF (u4 (.int .i64 (-1) :: (u8 (u4 (u2 []))))) [.box [.str p1]] (wk [some 0] (.u4 (.c rfl (.u8 (.u4 (.u2 .nil))))) (.b rfl (.c rfl .nil) .nil) rfl) (bP aI [0] rfl (.cons (rfl) .nil) ?_))
  conv => whnf
  first | rfl | (simp; done) | (simp; rfl) | (simp; and_intros <;> rfl)
 refine .loopS (eG n p0 p1) (fun (s1 : Int) => (.slice (List.map ah p0) .shared :: (.func 120 [.ptr 0 0] :: (u4 (.unk :: (.int .i64 (p0.length : Int) :: (.int .i64 s1 :: (u8 (u2 []))))))))) (fun (s1 : Int) => [.box [.str p1]]) ho1 (fun _ => rfl) (li (.s (.s (.u4 (.u (.s (.s (.u8 (.u2 .n))))))))) ?_
 intro n1 s1 hs1 KL1 hKL1
 unfold eG at hs1
 refine .q fun K5 k5 => ?_
 refine rg 0 ?_
 conv => whnf
 refine k5 _ _ ?_
 refine .q fun K6 k6 => ?_
 refine .aM rfl hs1 (fun hc1 hs1 => ?_) (fun hc1 hs1 => ?_)
 ·refine .skip ?_
  conv => whnf
  refine k6 _ _ ?_
  refine .q fun K7 k7 => ?_
  refine .block ?_
  refine .q fun K8 k8 => ?_
  refine rg 0 ?_
  conv => whnf
  refine k8 _ _ ?_
  refine .q fun K9 k9 => ?_
  refine rg 0 ?_
  conv => whnf
  obtain ⟨x1, hx1, hs1⟩ := ob hs1
  refine bA (l := p0) (f := ah) (cs := [.str ((x1).name), .slice (List.map encS ((x1).elems)) .shared]) hx1 (rfl) rfl ?_
  conv => whnf
  refine dw [0] [] [.agg [.str x1.name, .slice (List.map encS x1.elems) .shared], .ptr 0 0] [.agg [.str x1.name, .slice (List.map encS x1.elems) .shared], .ptr 0 0] (Gf 0 x1 p1 _ rfl) Xk rfl (.cons (rfl) .nil) (by simp; try decide) (.cons (.same _) (.cons (.same _) .nil)) (rn := .bool (x1.name == p1)) (rfl) (Hn := [.box [.str p1]]) ((dN (rfl) rfl)) ?_
  conv => whnf
  refine k9 _ _ ?_
  refine .aM rfl hs1 (fun hc2 hs1 => ?_) (fun hc2 hs1 => ?_)
  ·refine .q fun K10 k10 => ?_
   refine rg 0 ?_
   conv => whnf
   refine k10 _ _ ?_
   refine .ret ?_
   conv => whnf
   have e9 := sj hs1
   subst e9
   dsimp only [LR.el] at h
   have e9 := sj h
   subst e9
   refine hQ _ _ _ (fF (u4 (.int .i64 s1 :: (u8 (u4 (u2 []))))) [.box [.str p1]] (wk [some 0] (.u4 (.c rfl (.u8 (.u4 (.u2 .nil))))) (.b rfl (.c rfl .nil) .nil) rfl) (bP aI [0] rfl (.cons (rfl) .nil) ?_))
   conv => whnf
   first | rfl | (simp; done) | (simp; rfl) | (simp; and_intros <;> rfl)
  refine .skip ?_
  conv => whnf
  refine k7 _ _ ?_
  refine .know 5 0 fun hv1 => ?_
  refine .know 0 0 fun hv2 => ?_
  refine rg 0 ?_
  conv => whnf
  refine ⟨(s1 + 1), by have := fQ hv1; have := ko hv2; have h8 := of_decide_eq_true hc1; exact bT (by omega) (by omega), ?_⟩
  conv => whnf
  exact hKL1 _ _ _ hs1 (li (.s (.s (.u4 (.u (.s (.s (.u8 (.u2 .n)))))))))
 refine .exit ?_
 conv => whnf
 exact hR1 _ (sj hs1).symm _ _ (li (.u16 (.u2 (.u .n))))
theorem BJ (n : Nat) (p0 : Env) (p1 : Str) (r : Int) (h : qg n p0 p1 = some r) : aj Tryz.prog 67 [.agg [.slice (List.map ah p0.carriers) .shared, .slice (List.map aA p0.names) .shared], .str p1] [] (.int .i64 r) [] := by
 unfold qg at h
 refine aB true Tryz.func67 rfl (by rw [Tryz.ntmps67]; exact Nat.le_of_ble_eq_true rfl) fun Q hQ t ht => ?_
 conv at ht => whnf
 subst ht
 refine .q fun K1 k1 => ?_
 refine rg 2 ?_
 conv => whnf
 refine k1 _ _ ?_
 refine .q fun K2 k2 => ?_
 refine rg 0 ?_
 conv => whnf
 obtain ⟨x1, hx1, h⟩ := ob h
 refine dw [1] [] [.slice (List.map ah p0.carriers) .shared, .func 120 [.ptr 0 0]] [.slice (List.map ah p0.carriers) .shared, .func 120 [.ptr 1 0]] (sM _ _ _ _ hx1) Qx rfl (.cons (rfl) .nil) (by simp; try decide) (.cons (.same _) (.cons (.same _) .nil)) (rn := .int .i64 x1) (rfl) (Hn := [.box [.str p1]]) ((dN (rfl) rfl)) ?_
 conv => whnf
 refine k2 _ _ ?_
 refine .ret ?_
 conv => whnf
 have e9 := sj h
 subst e9
 refine hQ _ _ _ (aH aI (fun g => rfl) ?_)
 conv => whnf
theorem Gq (n : Nat) (p0 : Str) (p1 : List Carrier) (p2 : List Decl) (r : Bool) (h : pQ n p0 p1 p2 = some r) : aj Tryz.prog 96 [.str p0, .ptr 0 0] [.box [.slice (List.map ah p1) .shared, .slice (List.map aA p2) .shared]] (.bool r) [.box [.slice (List.map ah p1) .shared, .slice (List.map aA p2) .shared]] := by
 unfold pQ at h
 refine aB true Tryz.func96 rfl (by rw [Tryz.ntmps96]; exact Nat.le_of_ble_eq_true rfl) fun Q hQ t ht => ?_
 conv at ht => whnf
 subst ht
 refine .q fun K1 k1 => ?_
 refine rg 0 ?_
 conv => whnf
 refine k1 _ _ ?_
 refine .q fun K2 k2 => ?_
 refine rg 0 ?_
 conv => whnf
 obtain ⟨x1, hx1, h⟩ := ob h
 refine aJ (BJ _ _ _ _ hx1) Uf (.cons (.same _) (.cons (.same _) .nil)) (fun g => by simp) (fun g => rfl) ?_
 conv => whnf
 refine k2 _ _ ?_
 refine .ret ?_
 conv => whnf
 have e9 := sj h
 subst e9
 refine hQ _ _ _ (fF (u2 (.unk :: (.bool (decide (x1 < 0)) :: (u4 [])))) [.box [.slice (List.map ah p1) .shared, .slice (List.map aA p2) .shared]] (wk [some 0] (.u2 (.u (.c rfl (.u4 .nil)))) (.b rfl (.e aF (.e aN .nil)) .nil) rfl) (bP aI [0] rfl (.cons (by simp only [bH, ren, aZ, aV, bX, bD, bB, bf, bK, bq, bJ, aF, aN, aR, aO, au, aP]; try rfl) .nil) ?_))
 conv => whnf
 first | rfl | (simp; done) | (simp; rfl) | (simp; and_intros <;> rfl)
theorem tQ (n : Nat) (p0 : List Str) (p1 : List Carrier) (p2 : List Decl) (r : Int) (h : iL n p0 p1 p2 = some r) : aj Tryz.prog 158 [.slice (List.map encS p0) .shared, .func 96 [.ptr 0 0]] [.box [.slice (List.map ah p1) .shared, .slice (List.map aA p2) .shared]] (.int .i64 r) [.box [.slice (List.map ah p1) .shared, .slice (List.map aA p2) .shared]] := by
 unfold iL at h
 refine aB true Tryz.func158 rfl (by rw [Tryz.ntmps158]; exact Nat.le_of_ble_eq_true rfl) fun Q hQ t ht => ?_
 conv at ht => whnf
 subst ht
 refine .q fun K1 k1 => ?_
 refine rg 0 ?_
 conv => whnf
 refine k1 _ _ ?_
 refine .q fun K2 k2 => ?_
 refine .q fun K3 k3 => ?_
 refine rg 0 ?_
 conv => whnf
 refine aU (l := p0) (f := encS) ?_
 conv => whnf
 refine k3 _ _ ?_
 refine .block ?_
 obtain ⟨o1, ho1, h⟩ := ob h
 have hR1 : ∀ s2 : Unit, o1 = .nx s2 → ∀ t9 h9, Le 1 t9 h9 (u16 (u2 (.unk :: []))) [.box [.slice (List.map ah p1) .shared, .slice (List.map aA p2) .shared]] → K2 t9 h9 := by
  intro s2 ho
  subst ho
  dsimp only [LR.el] at h
  intro t9 h9 hw
  refine k2 _ _ (AW.le hw ?_)
  refine .q fun K4 k4 => ?_
  refine rg 0 ?_
  conv => whnf
  refine k4 _ _ ?_
  refine .ret ?_
  conv => whnf
  have e9 := sj h
  subst e9
  refine hQ _ _ _ (fF (u4 (.int .i64 (-1) :: (u8 (u4 (u2 []))))) [.box [.slice (List.map ah p1) .shared, .slice (List.map aA p2) .shared]] (wk [some 0] (.u4 (.c rfl (.u8 (.u4 (.u2 .nil))))) (.b rfl (.e aF (.e aN .nil)) .nil) rfl) (bP aI [0] rfl (.cons (by simp only [bH, ren, aZ, aV, bX, bD, bB, bf, bK, bq, bJ, aF, aN, aR, aO, au, aP]; try rfl) .nil) ?_))
  conv => whnf
  first | rfl | (simp; done) | (simp; rfl) | (simp; and_intros <;> rfl)
 refine .loopS (eZ n p0 p1 p2) (fun (s1 : Int) => (.slice (List.map encS p0) .shared :: (.func 96 [.ptr 0 0] :: (u4 (.unk :: (.int .i64 (p0.length : Int) :: (.int .i64 s1 :: (u8 (u2 []))))))))) (fun (s1 : Int) => [.box [.slice (List.map ah p1) .shared, .slice (List.map aA p2) .shared]]) ho1 (fun _ => rfl) (li (.s (.s (.u4 (.u (.s (.s (.u8 (.u2 .n))))))))) ?_
 intro n1 s1 hs1 KL1 hKL1
 unfold eZ at hs1
 refine .q fun K5 k5 => ?_
 refine rg 0 ?_
 conv => whnf
 refine k5 _ _ ?_
 refine .q fun K6 k6 => ?_
 refine .aM rfl hs1 (fun hc1 hs1 => ?_) (fun hc1 hs1 => ?_)
 ·refine .skip ?_
  conv => whnf
  refine k6 _ _ ?_
  refine .q fun K7 k7 => ?_
  refine .block ?_
  refine .q fun K8 k8 => ?_
  refine rg 0 ?_
  conv => whnf
  refine k8 _ _ ?_
  refine .q fun K9 k9 => ?_
  refine rg 0 ?_
  conv => whnf
  obtain ⟨x1, hx1, hs1⟩ := ob hs1
  refine bA (l := p0) (f := encS) (cs := [.str (x1)]) hx1 (rfl) rfl ?_
  conv => whnf
  obtain ⟨x2, hx2, hs1⟩ := ob hs1
  refine dw [0] [] [.str x1, .ptr 0 0] [.str x1, .ptr 0 0] (Gq _ _ _ _ _ hx2) Zx rfl (.cons (by simp only [bH, ren, aZ, aV, bX, bD, bB, bf, bK, bq, bJ, aF, aN, aR, aO, au, aP]; try rfl) .nil) (rfl) (.cons (.same _) (.cons (.same _) .nil)) (rn := .bool x2) (rfl) (Hn := [.box [.slice (List.map ah p1) .shared, .slice (List.map aA p2) .shared]]) ((dN (by simp only [bH, ren, aZ, aV, bX, bD, bB, bf, bK, bq, bJ, aF, aN, aR, aO, au, aP]; try rfl) rfl)) ?_
  conv => whnf
  refine k9 _ _ ?_
  refine .aM rfl hs1 (fun hc2 hs1 => ?_) (fun hc2 hs1 => ?_)
  ·refine .q fun K10 k10 => ?_
   refine rg 0 ?_
   conv => whnf
   refine k10 _ _ ?_
   refine .ret ?_
   conv => whnf
   have e9 := sj hs1
   subst e9
   dsimp only [LR.el] at h
   have e9 := sj h
   subst e9
   refine hQ _ _ _ (fF (u4 (.int .i64 s1 :: (u8 (u4 (u2 []))))) [.box [.slice (List.map ah p1) .shared, .slice (List.map aA p2) .shared]] (wk [some 0] (.u4 (.c rfl (.u8 (.u4 (.u2 .nil))))) (.b rfl (.e aF (.e aN .nil)) .nil) rfl) (bP aI [0] rfl (.cons (by simp only [bH, ren, aZ, aV, bX, bD, bB, bf, bK, bq, bJ, aF, aN, aR, aO, au, aP]; try rfl) .nil) ?_))
   conv => whnf
   first | rfl | (simp; done) | (simp; rfl) | (simp; and_intros <;> rfl)
  refine .skip ?_
  conv => whnf
  refine k7 _ _ ?_
  refine .know 5 0 fun hv1 => ?_
  refine .know 0 0 fun hv2 => ?_
  refine rg 0 ?_
  conv => whnf
  refine ⟨(s1 + 1), by have := fQ hv1; have := ko hv2; have h8 := of_decide_eq_true hc1; exact bT (by omega) (by omega), ?_⟩
  conv => whnf
  exact hKL1 _ _ _ hs1 (li (.s (.s (.u4 (.u (.s (.s (.u8 (.u2 .n)))))))))
 refine .exit ?_
 conv => whnf
 exact hR1 _ (sj hs1).symm _ _ (li (.u16 (.u2 (.u .n))))
theorem rC (n : Nat) (p0 : List Str) (p1 : List Carrier) (p2 : List Decl) (r : Bool) (h : gJ n p0 p1 p2 = some r) : aj Tryz.prog 94 [.slice (List.map encS p0) .shared, .func 96 [.ptr 0 0]] [.box [.slice (List.map ah p1) .shared, .slice (List.map aA p2) .shared]] (.bool r) [.box [.slice (List.map ah p1) .shared, .slice (List.map aA p2) .shared]] := by
 unfold gJ at h
 refine aB true Tryz.func94 rfl (by rw [Tryz.ntmps94]; exact Nat.le_of_ble_eq_true rfl) fun Q hQ t ht => ?_
 conv at ht => whnf
 subst ht
 refine .q fun K1 k1 => ?_
 refine rg 0 ?_
 conv => whnf
 refine k1 _ _ ?_
 refine .q fun K2 k2 => ?_
 refine rg 0 ?_
 conv => whnf
 obtain ⟨x1, hx1, h⟩ := ob h
 refine dw [0] [] [.slice (List.map encS p0) .shared, .func 96 [.ptr 0 0]] [.slice (List.map encS p0) .shared, .func 96 [.ptr 0 0]] (tQ _ _ _ _ _ hx1) Qk rfl (.cons (by simp only [bH, ren, aZ, aV, bX, bD, bB, bf, bK, bq, bJ, aF, aN, aR, aO, au, aP]; try rfl) .nil) (by simp; try decide) (.cons (.same _) (.cons (.same _) .nil)) (rn := .int .i64 x1) (rfl) (Hn := [.box [.slice (List.map ah p1) .shared, .slice (List.map aA p2) .shared]]) ((dN (by simp only [bH, ren, aZ, aV, bX, bD, bB, bf, bK, bq, bJ, aF, aN, aR, aO, au, aP]; try rfl) rfl)) ?_
 conv => whnf
 refine k2 _ _ ?_
 refine .ret ?_
 conv => whnf
 have e9 := sj h
 subst e9
 refine hQ _ _ _ (fF (u4 (.bool (decide (0 ≤ x1)) :: (u4 []))) [.box [.slice (List.map ah p1) .shared, .slice (List.map aA p2) .shared]] (wk [some 0] (.u4 (.c rfl (.u4 .nil))) (.b rfl (.e aF (.e aN .nil)) .nil) rfl) (bP aI [0] rfl (.cons (by simp only [bH, ren, aZ, aV, bX, bD, bB, bf, bK, bq, bJ, aF, aN, aR, aO, au, aP]; try rfl) .nil) ?_))
 conv => whnf
 first | rfl | (simp; done) | (simp; rfl) | (simp; and_intros <;> rfl)
theorem KI (n : Nat) (p0 : Env) (p1 : Ty) (r : Bool) (h : sQ n p0 p1 = some r) : aj Tryz.prog 44 [.agg [.slice (List.map ah p0.carriers) .shared, .slice (List.map aA p0.names) .shared], .agg [.int .i64 p1.kind, .str p1.name, .slice (List.map aC p1.kids) .shared]] [] (.bool r) [] := by
 unfold sQ at h
 refine aB true Tryz.func44 rfl (by rw [Tryz.ntmps44]; exact Nat.le_of_ble_eq_true rfl) fun Q hQ t ht => ?_
 conv at ht => whnf
 subst ht
 refine .q fun K1 k1 => ?_
 refine rg 2 ?_
 conv => whnf
 refine k1 _ _ ?_
 refine .q fun K2 k2 => ?_
 obtain ⟨s1, hj1, h⟩ := ob h
 have hR1 : ∀ t9 h9, Le 0 t9 h9 (u4 (.bool s1 :: (u8 (.unk :: [])))) [] → K2 t9 h9 := by
  intro t9 h9 hw
  refine k2 _ _ (AW.le hw ?_)
  clear hw
  refine .ret ?_
  conv => whnf
  have e9 := sj h
  subst e9
  refine hQ _ _ _ (aH aI (fun g => rfl) ?_)
  conv => whnf
 refine rg 0 ?_
 conv => whnf
 obtain ⟨x1, hx1, hj1⟩ := ob hj1
 refine aJ (qF _ _ _ hx1) MP (.cons (.same _) .nil) (fun g => by simp) (fun g => rfl) ?_
 conv => whnf
 refine aD hj1 (fun hc1 hj1 => ?_) (fun hc1 hj1 => ?_)
 ·conv => whnf
  obtain ⟨x2, hx2, hj1⟩ := ob hj1
  refine aJ (uX _ _ _ hx2) Ux (.cons (.same _) .nil) (fun g => by simp) (fun g => by simp) ?_
  conv => whnf
  obtain ⟨x3, hx3, hj1⟩ := ob hj1
  refine dw [0] [] [.slice (List.map encS x2) .shared, .func 96 [.ptr 0 0]] [.slice (List.map encS x2) .shared, .func 96 [.ptr 0 0]] (rC _ _ _ _ _ hx3) TQ rfl (.cons (by simp only [bH, ren, aZ, aV, bX, bD, bB, bf, bK, bq, bJ, aF, aN, aR, aO, au, aP]; try rfl) .nil) (by simp; try decide) (.cons (.same _) (.cons (.same _) .nil)) (rn := .bool x3) (rfl) (Hn := [.box [.slice (List.map ah p0.carriers) .shared, .slice (List.map aA p0.names) .shared]]) ((dN (by simp only [bH, ren, aZ, aV, bX, bD, bB, bf, bK, bq, bJ, aF, aN, aR, aO, au, aP]; try rfl) rfl)) ?_
  conv => whnf
  cases hj1
  exact hR1 _ _ (wk [] (.u4 (.c rfl (.u8 (.u .nil)))) .nil rfl)
 conv => whnf
 cases hj1
 exact hR1 _ _ (wk [] (.u4 (.c rfl (.u8 (.u .nil)))) .nil rfl)
theorem wY (n : Nat) (p0 : Int) (r : Bool) (h : cmp_isNaN_int n p0 = some r) : aj Tryz.prog 114 [.int .i64 p0] [] (.bool r) [] := by
 unfold cmp_isNaN_int at h
 refine aB true Tryz.func114 rfl (by rw [Tryz.ntmps114]; exact Nat.le_of_ble_eq_true rfl) fun Q hQ t ht => ?_
 conv at ht => whnf
 subst ht
 refine .q fun K1 k1 => ?_
 refine rg 0 ?_
 conv => whnf
 refine k1 _ _ ?_
 refine .q fun K2 k2 => ?_
 refine rg 0 ?_
 conv => whnf
 refine k2 _ _ ?_
 refine .ret ?_
 conv => whnf
 have e9 := sj h
 subst e9
 refine hQ _ _ _ (aH aI (fun g => rfl) ?_)
 conv => whnf
theorem vk (n : Nat) (p0 : Int) (p1 : Int) (r : Int) (h : cmp_Compare_int n p0 p1 = some r) : aj Tryz.prog 60 [.int .i64 p0, .int .i64 p1] [] (.int .i64 r) [] := by
 unfold cmp_Compare_int at h
 refine aB true Tryz.func60 rfl (by rw [Tryz.ntmps60]; exact Nat.le_of_ble_eq_true rfl) fun Q hQ t ht => ?_
 conv at ht => whnf
 subst ht
 refine .q fun K1 k1 => ?_
 refine rg 0 ?_
 conv => whnf
 refine k1 _ _ ?_
 refine .q fun K2 k2 => ?_
 refine rg 0 ?_
 conv => whnf
 refine aJ (wY 0 p0 _ rfl) Qs (.cons (.same _) .nil) (fun g => rfl) (fun g => rfl) ?_
 conv => whnf
 refine k2 _ _ ?_
 refine .q fun K3 k3 => ?_
 refine rg 0 ?_
 conv => whnf
 refine aJ (wY 0 p1 _ rfl) Qs (.cons (.same _) .nil) (fun g => rfl) (fun g => rfl) ?_
 conv => whnf
 refine k3 _ _ ?_
 refine .q fun K4 k4 => ?_
 refine .q fun K5 k5 => ?_
 refine rg 0 ?_
 conv => whnf
 refine k5 _ _ ?_
 refine .aM rfl h (fun hc1 h => ?_) (fun hc1 h => ?_)
 ·refine .q fun K6 k6 => ?_
  refine .q fun K7 k7 => ?_
  refine rg 0 ?_
  conv => whnf
  refine k7 _ _ ?_
  refine .aM rfl h (fun hc2 h => ?_) (fun hc2 h => ?_)
  ·refine .q fun K8 k8 => ?_
   refine rg 0 ?_
   conv => whnf
   refine k8 _ _ ?_
   refine .ret ?_
   conv => whnf
   have e9 := sj h
   subst e9
   refine hQ _ _ _ (aH aI (fun g => rfl) ?_)
   conv => whnf
  refine .skip ?_
  conv => whnf
  refine k6 _ _ ?_
  refine .q fun K9 k9 => ?_
  refine rg 0 ?_
  conv => whnf
  refine k9 _ _ ?_
  refine .ret ?_
  conv => whnf
  have e9 := sj h
  subst e9
  refine hQ _ _ _ (aH aI (fun g => rfl) ?_)
  conv => whnf
 refine .skip ?_
 conv => whnf
 refine k4 _ _ ?_
 refine .q fun K10 k10 => ?_
 refine .q fun K11 k11 => ?_
 refine rg 0 ?_
 conv => whnf
 refine k11 _ _ ?_
 refine .aM rfl h (fun hc3 h => ?_) (fun hc3 h => ?_)
 ·refine .q fun K12 k12 => ?_
  refine rg 0 ?_
  conv => whnf
  refine k12 _ _ ?_
  refine .ret ?_
  conv => whnf
  have e9 := sj h
  subst e9
  refine hQ _ _ _ (aH aI (fun g => rfl) ?_)
  conv => whnf
 refine .skip ?_
 conv => whnf
 refine k10 _ _ ?_
 refine .q fun K13 k13 => ?_
 refine .q fun K14 k14 => ?_
 refine rg 0 ?_
 conv => whnf
 refine k14 _ _ ?_
 refine .aM rfl h (fun hc4 h => ?_) (fun hc4 h => ?_)
 ·refine .q fun K15 k15 => ?_
  refine rg 0 ?_
  conv => whnf
  refine k15 _ _ ?_
  refine .ret ?_
  conv => whnf
  have e9 := sj h
  subst e9
  refine hQ _ _ _ (aH aI (fun g => rfl) ?_)
  conv => whnf
 refine .skip ?_
 conv => whnf
 refine k13 _ _ ?_
 refine .q fun K16 k16 => ?_
 refine .q fun K17 k17 => ?_
 refine rg 0 ?_
 conv => whnf
 refine k17 _ _ ?_
 refine .aM rfl h (fun hc5 h => ?_) (fun hc5 h => ?_)
 ·refine .q fun K18 k18 => ?_
  refine rg 0 ?_
  conv => whnf
  refine k18 _ _ ?_
  refine .ret ?_
  conv => whnf
  have e9 := sj h
  subst e9
  refine hQ _ _ _ (aH aI (fun g => rfl) ?_)
  conv => whnf
 refine .skip ?_
 conv => whnf
 refine k16 _ _ ?_
 refine .q fun K19 k19 => ?_
 refine rg 0 ?_
 conv => whnf
 refine k19 _ _ ?_
 refine .ret ?_
 conv => whnf
 have e9 := sj h
 subst e9
 refine hQ _ _ _ (aH aI (fun g => rfl) ?_)
 conv => whnf
theorem KM (n : Nat) (p0 : List Int) (r : Int) (h : wz n p0 = some r) : aj Tryz.prog 59 [.slice (List.map encI p0) .shared] [] (.int .i64 r) [] := by
 unfold wz at h
 refine aB true Tryz.func59 rfl (by rw [Tryz.ntmps59]; exact Nat.le_of_ble_eq_true rfl) fun Q hQ t ht => ?_
 conv at ht => whnf
 subst ht
 refine .q fun K1 k1 => ?_
 refine rg 0 ?_
 conv => whnf
 refine k1 _ _ ?_
 refine .q fun K2 k2 => ?_
 refine rg 0 ?_
 conv => whnf
 refine k2 _ _ ?_
 refine .q fun K3 k3 => ?_
 refine .q fun K4 k4 => ?_
 refine rg 0 ?_
 conv => whnf
 refine aU (l := p0) (f := encI) ?_
 conv => whnf
 refine k4 _ _ ?_
 refine .block ?_
 obtain ⟨o1, ho1, h⟩ := ob h
 have hR1 : ∀ s2 : Unit, o1 = .nx s2 → ∀ t9 h9, Le 0 t9 h9 (u2 (.unk :: (.int .i64 0 :: (u8 (u4 (u2 [])))))) [] → K3 t9 h9 := by
  intro s2 ho
  subst ho
  dsimp only [LR.el] at h
  intro t9 h9 hw
  refine k3 _ _ (AW.le hw ?_)
  refine .q fun K5 k5 => ?_
  refine rg 0 ?_
  conv => whnf
  refine k5 _ _ ?_
  refine .ret ?_
  conv => whnf
  have e9 := sj h
  subst e9
  refine hQ _ _ _ (aH aI (fun g => rfl) ?_)
  conv => whnf
 refine .loopS (mD n p0) (fun (s1 : Int) => (u2 (.unk :: (.int .i64 0 :: (u2 (.slice (List.map encI p0) .shared :: (.int .i64 (p0.length : Int) :: (.int .i64 s1 :: (u8 (.unk :: [])))))))))) (fun (s1 : Int) => []) ho1 (fun _ => rfl) (li (.u2 (.u (.s (.u2 (.s (.s (.s (.u8 (.u .n)))))))))) ?_
 intro n1 s1 hs1 KL1 hKL1
 unfold mD at hs1
 refine .q fun K6 k6 => ?_
 refine rg 0 ?_
 conv => whnf
 refine k6 _ _ ?_
 refine .q fun K7 k7 => ?_
 refine .aM rfl hs1 (fun hc1 hs1 => ?_) (fun hc1 hs1 => ?_)
 ·refine .skip ?_
  conv => whnf
  refine k7 _ _ ?_
  refine .q fun K8 k8 => ?_
  refine .block ?_
  refine .q fun K9 k9 => ?_
  refine rg 0 ?_
  conv => whnf
  obtain ⟨x1, hx1, hs1⟩ := ob hs1
  refine bA (l := p0) (f := encI) (cs := [.int .i64 (x1)]) hx1 (rfl) rfl ?_
  conv => whnf
  refine k9 _ _ ?_
  refine .q fun K10 k10 => ?_
  refine rg 0 ?_
  conv => whnf
  refine k10 _ _ ?_
  refine .aM rfl hs1 (fun hc2 hs1 => ?_) (fun hc2 hs1 => ?_)
  ·refine .q fun K11 k11 => ?_
   refine rg 0 ?_
   conv => whnf
   refine k11 _ _ ?_
   refine .ret ?_
   conv => whnf
   have e9 := sj hs1
   subst e9
   dsimp only [LR.el] at h
   have e9 := sj h
   subst e9
   refine hQ _ _ _ (aH aI (fun g => rfl) ?_)
   conv => whnf
  refine .skip ?_
  conv => whnf
  refine k8 _ _ ?_
  refine .know 8 0 fun hv1 => ?_
  refine .know 6 0 fun hv2 => ?_
  refine rg 0 ?_
  conv => whnf
  refine ⟨(s1 + 1), by have := fQ hv1; have := ko hv2; have h8 := of_decide_eq_true hc1; exact bT (by omega) (by omega), ?_⟩
  conv => whnf
  exact hKL1 _ _ _ hs1 (li (.u2 (.u (.s (.u2 (.s (.s (.s (.u8 (.u .n))))))))))
 refine .exit ?_
 conv => whnf
 exact hR1 _ (sj hs1).symm _ _ (li (.u2 (.u (.s (.u8 (.u4 (.u2 .n)))))))
abbrev qds (qcz : (List Val) → (List Val) → Option Int) : Prop := ∀ (p0 : List Val) (p1 : List Val) (r : Int), qcz p0 p1 = some r → aj Tryz.prog 62 [.slice (List.map ak p0) .shared, .slice (List.map ak p1) .shared, .func 23 []] [] (.int .i64 r) []
abbrev qba (qcw : Val → Val → Option Int) : Prop := ∀ (p0 : Val) (p1 : Val) (r : Int), qcw p0 p1 = some r → aj Tryz.prog 23 [.agg [.int .i64 p0.kind, .int .i64 p0.n, .str p0.name, .slice (List.map ak p0.kids) .shared], .agg [.int .i64 p1.kind, .int .i64 p1.n, .str p1.name, .slice (List.map ak p1.kids) .shared]] [] (.int .i64 r) []
theorem rA (n : Nat) (qcz : (List Val) → (List Val) → Option Int) (qcw : Val → Val → Option Int) (qbl : qds qcz) (qbi : qba qcw) (p0 : List Val) (p1 : List Val) (r : Int) (h : eX n qcz qcw p0 p1 = some r) : aj Tryz.prog 62 [.slice (List.map ak p0) .shared, .slice (List.map ak p1) .shared, .func 23 []] [] (.int .i64 r) [] := by
 unfold eX at h
 refine aB true Tryz.func62 rfl (by rw [Tryz.ntmps62]; exact Nat.le_of_ble_eq_true rfl) fun Q hQ t ht => ?_
 conv at ht => whnf
 subst ht
 refine .q fun K1 k1 => ?_
 refine rg 0 ?_
 conv => whnf
 refine k1 _ _ ?_
 refine .q fun K2 k2 => ?_
 refine .q fun K3 k3 => ?_
 refine rg 0 ?_
 conv => whnf
 refine aU (l := p0) (f := ak) ?_
 conv => whnf
 refine k3 _ _ ?_
 refine .block ?_
 obtain ⟨o1, ho1, h⟩ := ob h
 have hR1 : ∀ s2 : Unit, o1 = .nx s2 → ∀ t9 h9, Le 0 t9 h9 (.slice (List.map ak p0) .shared :: (.slice (List.map ak p1) .shared :: (u32 (u4 (.unk :: []))))) [] → K2 t9 h9 := by
  intro s2 ho
  subst ho
  dsimp only [LR.el] at h
  intro t9 h9 hw
  refine k2 _ _ (AW.le hw ?_)
  refine .q fun K4 k4 => ?_
  refine .q fun K5 k5 => ?_
  refine rg 0 ?_
  conv => whnf
  refine aU (l := p0) (f := ak) ?_
  conv => whnf
  refine aU (l := p1) (f := ak) ?_
  conv => whnf
  refine k5 _ _ ?_
  refine .aM rfl h (fun hc1 h => ?_) (fun hc1 h => ?_)
  ·refine .q fun K6 k6 => ?_
   refine rg 0 ?_
   conv => whnf
   refine k6 _ _ ?_
   refine .ret ?_
   conv => whnf
   have e9 := sj h
   subst e9
   refine hQ _ _ _ (aH aI (fun g => rfl) ?_)
   conv => whnf
  refine .skip ?_
  conv => whnf
  refine k4 _ _ ?_
  refine .q fun K7 k7 => ?_
  refine rg 0 ?_
  conv => whnf
  refine k7 _ _ ?_
  refine .ret ?_
  conv => whnf
  have e9 := sj h
  subst e9
  refine hQ _ _ _ (aH aI (fun g => rfl) ?_)
  conv => whnf
 refine .loopS (bY n qcz qcw p0 p1) (fun (s1 : Int) => (.slice (List.map ak p0) .shared :: (.slice (List.map ak p1) .shared :: (.func 23 [] :: (u8 (.slice (List.map ak p0) .shared :: (.int .i64 (p0.length : Int) :: (.int .i64 s1 :: (u16 (u8 (.unk :: []))))))))))) (fun (s1 : Int) => []) ho1 (fun _ => rfl) (li (.s (.s (.s (.u8 (.s (.s (.s (.u16 (.u8 (.u .n))))))))))) ?_
 intro n1 s1 hs1 KL1 hKL1
 unfold bY at hs1
 refine .q fun K8 k8 => ?_
 refine rg 0 ?_
 conv => whnf
 refine k8 _ _ ?_
 refine .q fun K9 k9 => ?_
 refine .aM rfl hs1 (fun hc2 hs1 => ?_) (fun hc2 hs1 => ?_)
 ·refine .skip ?_
  conv => whnf
  refine k9 _ _ ?_
  refine .q fun K10 k10 => ?_
  refine .block ?_
  refine .q fun K11 k11 => ?_
  refine rg 1 ?_
  conv => whnf
  obtain ⟨x1, hx1, hs1⟩ := ob hs1
  refine bA (l := p0) (f := ak) (cs := [.int .i64 ((x1).kind), .int .i64 ((x1).n), .str ((x1).name), .slice (List.map ak ((x1).kids)) .shared]) hx1 (dB x1) rfl ?_
  conv => whnf
  refine k11 _ _ ?_
  refine .q fun K12 k12 => ?_
  refine .q fun K13 k13 => ?_
  refine rg 0 ?_
  conv => whnf
  refine aU (l := p1) (f := ak) ?_
  conv => whnf
  refine k13 _ _ ?_
  refine .aM rfl hs1 (fun hc3 hs1 => ?_) (fun hc3 hs1 => ?_)
  ·refine .q fun K14 k14 => ?_
   refine rg 0 ?_
   conv => whnf
   refine k14 _ _ ?_
   refine .ret ?_
   conv => whnf
   have e9 := sj hs1
   subst e9
   dsimp only [LR.el] at h
   have e9 := sj h
   subst e9
   refine hQ _ _ _ (aH aI (fun g => rfl) ?_)
   conv => whnf
  refine .skip ?_
  conv => whnf
  refine k12 _ _ ?_
  refine .q fun K15 k15 => ?_
  refine rg 1 ?_
  conv => whnf
  obtain ⟨x2, hx2, hs1⟩ := ob hs1
  refine bA (l := p1) (f := ak) (cs := [.int .i64 ((x2).kind), .int .i64 ((x2).n), .str ((x2).name), .slice (List.map ak ((x2).kids)) .shared]) hx2 (dB x2) rfl ?_
  conv => whnf
  refine k15 _ _ ?_
  refine .q fun K16 k16 => ?_
  refine rg 0 ?_
  conv => whnf
  obtain ⟨x3, hx3, hs1⟩ := ob hs1
  refine aJ (qbi _ _ _ hx3) Uw (.cons (.same _) (.cons (.same _) .nil)) (fun g => by simp) (fun g => rfl) ?_
  conv => whnf
  refine k16 _ _ ?_
  refine .q fun K17 k17 => ?_
  refine rg 0 ?_
  conv => whnf
  refine k17 _ _ ?_
  refine .aM rfl hs1 (fun hc4 hs1 => ?_) (fun hc4 hs1 => ?_)
  ·refine .q fun K18 k18 => ?_
   refine rg 0 ?_
   conv => whnf
   refine k18 _ _ ?_
   refine .ret ?_
   conv => whnf
   have e9 := sj hs1
   subst e9
   dsimp only [LR.el] at h
   have e9 := sj h
   subst e9
   refine hQ _ _ _ (aH aI (fun g => rfl) ?_)
   conv => whnf
  refine .skip ?_
  conv => whnf
  refine k10 _ _ ?_
  refine .know 7 0 fun hv1 => ?_
  refine .know 0 0 fun hv2 => ?_
  refine rg 0 ?_
  conv => whnf
  refine ⟨(s1 + 1), by have := fQ hv1; have := ko hv2; have h8 := of_decide_eq_true hc2; exact bT (by omega) (by omega), ?_⟩
  conv => whnf
  exact hKL1 _ _ _ hs1 (wk [] (.e aR (.e aR (.cons (.func' .nil) (.u8 (.e aR (.c rfl (.c rfl (.u16 (.u8 (.u .nil)))))))))) .nil rfl)
 refine .exit ?_
 conv => whnf
 exact hR1 _ (sj hs1).symm _ _ (li (.s (.s (.u16 (.u16 (.u4 (.u .n)))))))
theorem Al (n : Nat) (qcz : (List Val) → (List Val) → Option Int) (qcw : Val → Val → Option Int) (qbl : qds qcz) (qbi : qba qcw) (p0 : Val) (p1 : Val) (r : Int) (h : lD n qcz qcw p0 p1 = some r) : aj Tryz.prog 23 [.agg [.int .i64 p0.kind, .int .i64 p0.n, .str p0.name, .slice (List.map ak p0.kids) .shared], .agg [.int .i64 p1.kind, .int .i64 p1.n, .str p1.name, .slice (List.map ak p1.kids) .shared]] [] (.int .i64 r) [] := by
 unfold lD at h
 refine aB true Tryz.func23 rfl (by rw [Tryz.ntmps23]; exact Nat.le_of_ble_eq_true rfl) fun Q hQ t ht => ?_
 conv at ht => whnf
 subst ht
 refine .q fun K1 k1 => ?_
 refine rg 2 ?_
 conv => whnf
 refine k1 _ _ ?_
 refine .q fun K2 k2 => ?_
 refine .q fun K3 k3 => ?_
 refine rg 1 ?_
 conv => whnf
 obtain ⟨x1, hx1, h⟩ := ob h
 refine aJ (vk _ _ _ _ hx1) Ur (.cons (.same _) (.cons (.same _) .nil)) (fun g => rfl) (fun g => rfl) ?_
 conv => whnf
 obtain ⟨x2, hx2, h⟩ := ob h
 refine aJ (vk _ _ _ _ hx2) Ur (.cons (.same _) (.cons (.same _) .nil)) (fun g => rfl) (fun g => rfl) ?_
 conv => whnf
 obtain ⟨x3, hx3, h⟩ := ob h
 refine aJ (vo _ _ _ _ hx3) Yv (.cons (.same _) (.cons (.same _) .nil)) (fun g => rfl) (fun g => rfl) ?_
 conv => whnf
 refine ⟨List.map encI ([x1, x2, x3]), rfl, ?_⟩
 conv => whnf
 obtain ⟨x4, hx4, h⟩ := ob h
 refine aJ (KM _ _ _ hx4) Zv (.cons (.share _ _) .nil) (fun g => by simp) (fun g => rfl) ?_
 conv => whnf
 refine ⟨by kernel_rfl, ?_⟩
 conv => whnf
 refine k3 _ _ ?_
 refine .q fun K4 k4 => ?_
 refine rg 0 ?_
 conv => whnf
 refine k4 _ _ ?_
 refine .aM rfl h (fun hc1 h => ?_) (fun hc1 h => ?_)
 ·refine .q fun K5 k5 => ?_
  refine rg 0 ?_
  conv => whnf
  refine k5 _ _ ?_
  refine .ret ?_
  conv => whnf
  have e9 := sj h
  subst e9
  refine hQ _ _ _ (aH aI (fun g => rfl) ?_)
  conv => whnf
 refine .skip ?_
 conv => whnf
 refine k2 _ _ ?_
 refine .q fun K6 k6 => ?_
 refine rg 0 ?_
 conv => whnf
 obtain ⟨x5, hx5, h⟩ := ob h
 refine aJ (qbl _ _ _ hx5) Y5 (.cons (.same _) (.cons (.same _) (.cons (.same _) .nil))) (fun g => by simp) (fun g => rfl) ?_
 conv => whnf
 refine k6 _ _ ?_
 refine .ret ?_
 conv => whnf
 have e9 := sj h
 subst e9
 refine hQ _ _ _ (aH aI (fun g => rfl) ?_)
 conv => whnf
theorem nG (n : Nat) : qds (dF n) ∧ qba (fq n) := by
 induction n with
 | zero => exact ⟨(fun p0 p1 r h => by unfold dF at h; cases h), (fun p0 p1 r h => by unfold fq at h; cases h)⟩
 | succ n ih =>
  exact ⟨(fun p0 p1 r h => rA n _ _ ih.1 ih.2 p0 p1 r (by unfold dF at h; exact h)), (fun p0 p1 r h => Al n _ _ ih.1 ih.2 p0 p1 r (by unfold fq at h; exact h))⟩
theorem yY (n : Nat) : qba (fq n) := (nG n).2
theorem e5x0 {p q : Prop} (f : p → q) (h : p := by exact wk [some 0] (.u (.c rfl (.u32 (.u8 (.u4 (.u2 (.u (.e aN (.c rfl (.c rfl (.u16 (.u2 (.u (.c rfl (.u4 .nil))))))))))))))) (.b rfl (.e aF (.e aN .nil)) .nil) rfl) : q := f h
theorem Dq (n : Nat) (p0 : Env) (r : List Str) (h : jv n p0 = some r) : aj Tryz.prog 92 [.agg [.slice (List.map ah p0.carriers) .shared, .slice (List.map aA p0.names) .shared]] [] (.slice (List.map encS r) (.tip 0 1)) [.tip (List.length r * 1)] := by
 unfold jv at h
 refine aB false Tryz.func92 rfl (by rw [Tryz.ntmps92]; exact Nat.le_of_ble_eq_true rfl) fun Q hQ t ht => ?_
 conv at ht => whnf
 subst ht
 refine .q fun K1 k1 => ?_
 refine rg 1 ?_
 conv => whnf
 refine k1 _ _ ?_
 refine .q fun K2 k2 => ?_
 refine rg 0 ?_
 conv => whnf
 refine k2 _ _ ?_
 refine .q fun K3 k3 => ?_
 refine .q fun K4 k4 => ?_
 refine rg 0 ?_
 conv => whnf
 refine aU (l := p0.carriers) (f := ah) ?_
 conv => whnf
 refine k4 _ _ ?_
 refine .block ?_
 obtain ⟨o1, ho1, h⟩ := ob h
 have hR1 : ∀ s2 : List Str, o1 = .nx s2 → ∀ t9 h9, Le 0 t9 h9 (.unk :: (.ptr 0 0 :: (.unk :: (.slice (List.map encS s2) (.tip 1 1) :: (u32 (u2 [])))))) [.box [.slice (List.map ah p0.carriers) .shared, .slice (List.map aA p0.names) .shared], .tip (List.length s2 * 1)] → K3 t9 h9 := by
  intro s2 ho
  subst ho
  dsimp only [LR.el] at h
  intro t9 h9 hw
  refine k3 _ _ (AW.le hw ?_)
  refine .q fun K5 k5 => ?_
  refine .q fun K6 k6 => ?_
  refine rg 0 ?_
  conv => whnf
  refine aU (l := p0.names) (f := aA) ?_
  conv => whnf
  refine k6 _ _ ?_
  refine .block ?_
  obtain ⟨o2, ho2, h⟩ := ob h
  have hR2 : ∀ s4 : List Str, o2 = .nx s4 → ∀ t9 h9, Le 0 t9 h9 (u2 (.unk :: (.slice (List.map encS s4) (.tip 0 1) :: (u32 (u2 []))))) [.tip (List.length s4 * 1)] → K5 t9 h9 := by
   intro s4 ho
   subst ho
   dsimp only [LR.el] at h
   intro t9 h9 hw
   refine k5 _ _ (AW.le hw ?_)
   refine .q fun K7 k7 => ?_
   refine rg 0 ?_
   conv => whnf
   refine k7 _ _ ?_
   refine .ret ?_
   conv => whnf
   have e9 := sj h
   subst e9
   refine hQ _ _ _ (fF (u2 (.slice (List.map encS s4) (.tip 0 1) :: (u32 (u2 (.unk :: []))))) [.tip (List.length s4 * 1)] (wk [some 0] (.u2 (.cons (.vN (bf _ _) rfl) (.u32 (.u2 (.u .nil))))) (.t rfl .nil) rfl) (bP aI [0] rfl (.cons (rfl) .nil) ?_))
   conv => whnf
   first | rfl | (simp; done) | (simp; rfl) | (simp; and_intros <;> rfl)
  refine .loopS (kK n p0) (fun (s3 : (List Str) × Int) => (u2 (.unk :: (.slice (List.map encS s3.1) (.tip 0 1) :: (u16 (u4 (.unk :: (.slice (List.map aA p0.names) .shared :: (.int .i64 (p0.names.length : Int) :: (.int .i64 s3.2 :: (u8 (u2 [])))))))))))) (fun (s3 : (List Str) × Int) => [.tip (List.length s3.1 * 1)]) ho2 (fun _ => rfl) (wk [some 1] (.u2 (.u (.cons (.vN (bf _ _) rfl) (.u16 (.u4 (.u (.e aN (.c rfl (.c rfl (.u8 (.u2 .nil))))))))))) (.t rfl .nil) rfl) ?_
  intro n2 s3 hs2 KL2 hKL2
  unfold kK at hs2
  refine .q fun K8 k8 => ?_
  refine rg 0 ?_
  conv => whnf
  refine k8 _ _ ?_
  refine .q fun K9 k9 => ?_
  refine .aM rfl hs2 (fun hc1 hs2 => ?_) (fun hc1 hs2 => ?_)
  ·refine .skip ?_
   conv => whnf
   refine k9 _ _ ?_
   refine .q fun K10 k10 => ?_
   refine .block ?_
   refine .q fun K11 k11 => ?_
   refine rg 1 ?_
   conv => whnf
   obtain ⟨x1, hx1, hs2⟩ := ob hs2
   refine bA (l := p0.names) (f := aA) (cs := [.str ((x1).name), .int .i64 (((x1).ty).kind), .str (((x1).ty).name), .slice (List.map aC (((x1).ty).kids)) .shared]) hx1 (rfl) rfl ?_
   conv => whnf
   refine k11 _ _ ?_
   refine rg 2 ?_
   conv => whnf
   refine ⟨List.map encS ([x1.name]), rfl, ?_⟩
   conv => whnf
   obtain ⟨x2, hx2, hs2⟩ := ob hs2
   refine mE (l := s3.1) (ys := [x1.name]) (f := encS) hx2 Ba rfl rfl rfl ?_
   conv => whnf
   refine k10 _ _ ?_
   refine .know 27 0 fun hv1 => ?_
   refine .know 25 0 fun hv2 => ?_
   refine rg 0 ?_
   conv => whnf
   refine ⟨(s3.2 + 1), by have := fQ hv1; have := ko hv2; have h8 := of_decide_eq_true hc1; exact bT (by omega) (by omega), ?_⟩
   conv => whnf
   exact hKL2 _ _ _ hs2 (wk [some 3] (.u2 (.u (.cons (.vN (bf _ _) rfl) (.u16 (.u4 (.u (.e aN (.c rfl (.c rfl (.u8 (.u2 .nil))))))))))) (.t rfl .nil) rfl)
  refine .exit ?_
  conv => whnf
  exact hR2 _ (sj hs2).symm _ _ (li (.u2 (.u (.s (.u16 (.u16 (.u2 .n)))))))
 refine .loopS (kG n p0) (fun (s1 : (List Str) × Int) => (.unk :: (.ptr 0 0 :: (.unk :: (.slice (List.map encS s1.1) (.tip 1 1) :: (u4 (.unk :: (.slice (List.map ah p0.carriers) .shared :: (.int .i64 (p0.carriers.length : Int) :: (.int .i64 s1.2 :: (u16 (u8 (u2 []))))))))))))) (fun (s1 : (List Str) × Int) => [.box [.slice (List.map ah p0.carriers) .shared, .slice (List.map aA p0.names) .shared], .tip (List.length s1.1 * 1)]) ho1 (fun _ => rfl) (wk [some 0, none] (.u (.c rfl (.u (.cons (.nils _ _) (.u4 (.u (.e aF (.c rfl (.c rfl (.u16 (.u8 (.u2 .nil)))))))))))) (.b rfl (.e aF (.e aN .nil)) (.w rfl .nil)) rfl) ?_
 intro n1 s1 hs1 KL1 hKL1
 unfold kG at hs1
 refine .q fun K12 k12 => ?_
 refine rg 0 ?_
 conv => whnf
 refine k12 _ _ ?_
 refine .q fun K13 k13 => ?_
 refine .aM rfl hs1 (fun hc2 hs1 => ?_) (fun hc2 hs1 => ?_)
 ·refine .skip ?_
  conv => whnf
  refine k13 _ _ ?_
  refine .q fun K14 k14 => ?_
  refine .block ?_
  refine .q fun K15 k15 => ?_
  refine rg 1 ?_
  conv => whnf
  obtain ⟨x3, hx3, hs1⟩ := ob hs1
  refine bA (l := p0.carriers) (f := ah) (cs := [.str ((x3).name), .slice (List.map encS ((x3).elems)) .shared]) hx3 (rfl) rfl ?_
  conv => whnf
  refine k15 _ _ ?_
  refine rg 3 ?_
  conv => whnf
  refine ⟨List.map encS ([x3.name]), rfl, ?_⟩
  conv => whnf
  obtain ⟨x4, hx4, hs1⟩ := ob hs1
  refine mE (l := s1.1) (ys := [x3.name]) (f := encS) hx4 Ba rfl rfl rfl ?_
  conv => whnf
  obtain ⟨x5, hx5, hs1⟩ := ob hs1
  refine mE (l := x4) (ys := x3.elems) (f := encS) hx5 Ba rfl rfl rfl ?_
  conv => whnf
  refine ⟨by kernel_rfl, ?_⟩
  conv => whnf
  refine k14 _ _ ?_
  refine .know 11 0 fun hv3 => ?_
  refine .know 9 0 fun hv4 => ?_
  refine rg 0 ?_
  conv => whnf
  refine ⟨(s1.2 + 1), by have := fQ hv3; have := ko hv4; have h8 := of_decide_eq_true hc2; exact bT (by omega) (by omega), ?_⟩
  conv => whnf
  exact hKL1 _ _ _ hs1 (wk [some 0, some 5] (.u (.c rfl (.u (.cons (.vN (bf _ _) rfl) (.u4 (.u (.e aF (.c rfl (.c rfl (.u16 (.u8 (.u2 .nil)))))))))))) (.b rfl (.e aF (.e aN .nil)) (.t rfl .nil)) rfl)
 refine .exit ?_
 conv => whnf
 exact hR1 _ (sj hs1).symm _ _ (li (.u (.s (.u (.s (.u16 (.u16 (.u2 .n))))))))
theorem C8 (n : Nat) (p0 : List Str) (r : Bool) (h : kR n p0 = some r) : aj Tryz.prog 91 [.slice (List.map encS p0) .shared] [] (.bool r) [] := by
 unfold kR at h
 refine aB true Tryz.func91 rfl (by rw [Tryz.ntmps91]; exact Nat.le_of_ble_eq_true rfl) fun Q hQ t ht => ?_
 conv at ht => whnf
 subst ht
 refine .q fun K1 k1 => ?_
 refine rg 0 ?_
 conv => whnf
 refine k1 _ _ ?_
 refine .q fun K2 k2 => ?_
 refine rg 1 ?_
 conv => whnf
 refine k2 _ _ ?_
 refine .q fun K3 k3 => ?_
 refine .q fun K4 k4 => ?_
 refine rg 0 ?_
 conv => whnf
 refine aU (l := p0) (f := encS) ?_
 conv => whnf
 refine k4 _ _ ?_
 refine .block ?_
 obtain ⟨o1, ho1, h⟩ := ob h
 have hR1 : ∀ s2 : Unit, o1 = .nx s2 → ∀ t9 h9, Le 0 t9 h9 (u16 (u2 (.unk :: []))) [] → K3 t9 h9 := by
  intro s2 ho
  subst ho
  dsimp only [LR.el] at h
  intro t9 h9 hw
  refine k3 _ _ (AW.le hw ?_)
  refine .q fun K5 k5 => ?_
  refine rg 0 ?_
  conv => whnf
  refine k5 _ _ ?_
  refine .ret ?_
  conv => whnf
  have e9 := sj h
  subst e9
  refine hQ _ _ _ (aH aI (fun g => rfl) ?_)
  conv => whnf
 refine .loopS (kI n p0) (fun (s1 : Int × (List (Str × Bool))) => (u2 (.unk :: (.mapr 0 :: (u2 (.unk :: (.slice (List.map encS p0) .shared :: (.int .i64 (p0.length : Int) :: (.int .i64 s1.1 :: (u8 (.unk :: []))))))))))) (fun (s1 : Int × (List (Str × Bool))) => [.mp (List.map (fun p => (p.1, (fun (x : Bool) => .bool x) p.2)) s1.2)]) ho1 (fun _ => rfl) (li (.u2 (.u (.s (.u2 (.u (.s (.s (.s (.u8 (.u .n))))))))))) ?_
 intro n1 s1 hs1 KL1 hKL1
 unfold kI at hs1
 refine .q fun K6 k6 => ?_
 refine rg 0 ?_
 conv => whnf
 refine k6 _ _ ?_
 refine .q fun K7 k7 => ?_
 refine .aM rfl hs1 (fun hc1 hs1 => ?_) (fun hc1 hs1 => ?_)
 ·refine .skip ?_
  conv => whnf
  refine k7 _ _ ?_
  refine .q fun K8 k8 => ?_
  refine .block ?_
  refine .q fun K9 k9 => ?_
  refine rg 0 ?_
  conv => whnf
  obtain ⟨x1, hx1, hs1⟩ := ob hs1
  refine bA (l := p0) (f := encS) (cs := [.str (x1)]) hx1 (rfl) rfl ?_
  conv => whnf
  refine k9 _ _ ?_
  refine .q fun K10 k10 => ?_
  refine .q fun K11 k11 => ?_
  obtain ⟨s3, hj1, hs1⟩ := ob hs1
  have hR2 : ∀ t9 h9, Le 0 t9 h9 (u2 (.unk :: (.mapr 0 :: (.unk :: (.str x1 :: (.unk :: (.slice (List.map encS p0) .shared :: (.int .i64 (p0.length : Int) :: (.int .i64 s1.1 :: (u4 (.unk :: (.bool s3 :: (u2 (.unk :: [])))))))))))))) [.mp (List.map (fun p => (p.1, (fun (x : Bool) => .bool x) p.2)) s1.2)] → K11 t9 h9 := by
   intro t9 h9 hw
   refine k11 _ _ (AW.le hw ?_)
   clear hw
   refine .aM rfl hs1 (fun hc2 hs1 => ?_) (fun hc2 hs1 => ?_)
   ·refine .q fun K12 k12 => ?_
    refine rg 0 ?_
    conv => whnf
    refine k12 _ _ ?_
    refine .ret ?_
    conv => whnf
    have e9 := sj hs1
    subst e9
    dsimp only [LR.el] at h
    have e9 := sj h
    subst e9
    refine hQ _ _ _ (aH aI (fun g => rfl) ?_)
    conv => whnf
   refine .skip ?_
   conv => whnf
   refine k10 _ _ ?_
   refine rg 0 ?_
   conv => whnf
   obtain ⟨x2, hx2, hs1⟩ := ob hs1
   refine Tg (m := s1.2) (f := (fun (x : Bool) => .bool x)) hx2 rfl ?_
   conv => whnf
   refine k8 _ _ ?_
   refine .know 9 0 fun hv1 => ?_
   refine .know 7 0 fun hv2 => ?_
   refine rg 0 ?_
   conv => whnf
   refine ⟨(s1.1 + 1), by have := fQ hv1; have := ko hv2; have h8 := of_decide_eq_true hc1; exact bT (by omega) (by omega), ?_⟩
   conv => whnf
   exact hKL1 _ _ _ hs1 (li (.u2 (.u (.s (.u2 (.u (.s (.s (.s (.u8 (.u .n)))))))))))
  refine rg 0 ?_
  conv => whnf
  refine XB (m := s1.2) (f := (fun (x : Bool) => .bool x)) hj1 (fun x3 hx3 hj1 => ?_) (fun hx3 hj1 => ?_)
  ·conv => whnf
   cases hj1
   exact hR2 _ _ (li (.u2 (.u (.s (.u (.s (.u (.s (.s (.s (.u4 (.u (.s (.u2 (.u .n)))))))))))))))
  conv => whnf
  cases hj1
  exact hR2 _ _ (li (.u2 (.u (.s (.u (.s (.u (.s (.s (.s (.u4 (.u (.s (.u2 (.u .n)))))))))))))))
 refine .exit ?_
 conv => whnf
 exact hR1 _ (sj hs1).symm _ _ (wk [] (.u16 (.u2 (.u .nil))) .nil rfl)
theorem pE (n : Nat) (p0 : Env) (r : Bool) (h : cB n p0 = some r) : aj Tryz.prog 42 [.agg [.slice (List.map ah p0.carriers) .shared, .slice (List.map aA p0.names) .shared]] [] (.bool r) [] := by
 unfold cB at h
 refine aB true Tryz.func42 rfl (by rw [Tryz.ntmps42]; exact Nat.le_of_ble_eq_true rfl) fun Q hQ t ht => ?_
 conv at ht => whnf
 subst ht
 refine .q fun K1 k1 => ?_
 refine rg 1 ?_
 conv => whnf
 refine k1 _ _ ?_
 refine .q fun K2 k2 => ?_
 refine .q fun K3 k3 => ?_
 obtain ⟨s1, hj1, h⟩ := ob h
 have hR1 : ∀ t9 h9, Le 0 t9 h9 (.unk :: (.ptr 0 0 :: (u16 (.bool s1 :: (u32 (u16 (u8 (.unk :: [])))))))) [.box [.slice (List.map ah p0.carriers) .shared, .slice (List.map aA p0.names) .shared]] → K3 t9 h9 := by
  intro t9 h9 hw
  refine k3 _ _ (AW.le hw ?_)
  clear hw
  refine .aM rfl h (fun hc1 h => ?_) (fun hc1 h => ?_)
  ·refine .q fun K4 k4 => ?_
   refine rg 0 ?_
   conv => whnf
   refine k4 _ _ ?_
   refine .ret ?_
   conv => whnf
   have e9 := sj h
   subst e9
   refine hQ _ _ _ (aH aI (fun g => rfl) ?_)
   conv => whnf
  refine .skip ?_
  conv => whnf
  refine k2 _ _ ?_
  refine .q fun K5 k5 => ?_
  refine .q fun K6 k6 => ?_
  refine rg 0 ?_
  conv => whnf
  refine aU (l := p0.carriers) (f := ah) ?_
  conv => whnf
  refine k6 _ _ ?_
  refine .block ?_
  obtain ⟨o1, ho1, h⟩ := ob h
  have hR2 : ∀ s3 : Unit, o1 = .nx s3 → ∀ t9 h9, Le 0 t9 h9 (.unk :: (.ptr 0 0 :: (u64 (u8 (u2 []))))) [.box [.slice (List.map ah p0.carriers) .shared, .slice (List.map aA p0.names) .shared]] → K5 t9 h9 := by
   intro s3 ho
   subst ho
   dsimp only [LR.el] at h
   intro t9 h9 hw
   refine k5 _ _ (AW.le hw ?_)
   refine .q fun K7 k7 => ?_
   refine .q fun K8 k8 => ?_
   refine rg 0 ?_
   conv => whnf
   refine aU (l := p0.names) (f := aA) ?_
   conv => whnf
   refine k8 _ _ ?_
   refine .block ?_
   obtain ⟨o2, ho2, h⟩ := ob h
   have hR3 : ∀ s5 : Unit, o2 = .nx s5 → ∀ t9 h9, Le 0 t9 h9 (.unk :: (.ptr 0 0 :: (u64 (u8 (u2 []))))) [.box [.slice (List.map ah p0.carriers) .shared, .slice (List.map aA p0.names) .shared]] → K7 t9 h9 := by
    intro s5 ho
    subst ho
    dsimp only [LR.el] at h
    intro t9 h9 hw
    refine k7 _ _ (AW.le hw ?_)
    refine .q fun K9 k9 => ?_
    refine rg 1 ?_
    conv => whnf
    obtain ⟨x1, hx1, h⟩ := ob h
    refine dw [] [1] [.agg [.slice (List.map ah p0.carriers) .shared, .slice (List.map aA p0.names) .shared]] [.agg [.slice (List.map ah p0.carriers) .shared, .slice (List.map aA p0.names) .shared]] (Dq _ _ _ hx1) Y4 rfl .nil (by simp; try decide) (.cons (.same _) .nil) (rn := .slice (List.map encS x1) (.tip 1 1)) (by simp; try decide) (Hn := [.tip (List.length x1 * 1)]) ((dN (rfl) rfl)) ?_
    conv => whnf
    obtain ⟨x2, hx2, h⟩ := ob h
    refine aJ (C8 _ _ _ hx2) Yt (.cons (.share _ _) .nil) (fun g => by simp) (fun g => rfl) ?_
    conv => whnf
    refine k9 _ _ ?_
    refine .ret ?_
    conv => whnf
    have e9 := sj h
    subst e9
    refine hQ _ _ _ (aH aI (fun g => rfl) ?_)
    conv => whnf
   refine .loopS (kL n p0) (fun (s4 : Int) => (.unk :: (.ptr 0 0 :: (u32 (u8 (u4 (u2 (.unk :: (.slice (List.map aA p0.names) .shared :: (.int .i64 (p0.names.length : Int) :: (.int .i64 s4 :: (u16 (u8 []))))))))))))) (fun (s4 : Int) => [.box [.slice (List.map ah p0.carriers) .shared, .slice (List.map aA p0.names) .shared]]) ho2 (fun _ => rfl) (li (.u (.s (.u16 (.u16 (.u8 (.u4 (.u2 (.u (.s (.s (.s (.u16 (.u8 .n)))))))))))))) ?_
   intro n2 s4 hs2 KL2 hKL2
   unfold kL at hs2
   refine .q fun K10 k10 => ?_
   refine rg 0 ?_
   conv => whnf
   refine k10 _ _ ?_
   refine .q fun K11 k11 => ?_
   refine .aM rfl hs2 (fun hc2 hs2 => ?_) (fun hc2 hs2 => ?_)
   ·refine .skip ?_
    conv => whnf
    refine k11 _ _ ?_
    refine .q fun K12 k12 => ?_
    refine .block ?_
    refine .q fun K13 k13 => ?_
    refine rg 1 ?_
    conv => whnf
    obtain ⟨x3, hx3, hs2⟩ := ob hs2
    refine bA (l := p0.names) (f := aA) (cs := [.str ((x3).name), .int .i64 (((x3).ty).kind), .str (((x3).ty).name), .slice (List.map aC (((x3).ty).kids)) .shared]) hx3 (rfl) rfl ?_
    conv => whnf
    refine k13 _ _ ?_
    refine .q fun K14 k14 => ?_
    obtain ⟨s6, hj2, hs2⟩ := ob hs2
    have hR4 : ∀ t9 h9, Le 0 t9 h9 (.unk :: (.ptr 0 0 :: (u32 (u8 (u4 (u2 (.unk :: (.slice (List.map aA p0.names) .shared :: (.int .i64 (p0.names.length : Int) :: (.int .i64 s4 :: (u16 (u2 (.unk :: (.bool s6 :: (u4 []))))))))))))))) [.box [.slice (List.map ah p0.carriers) .shared, .slice (List.map aA p0.names) .shared]] → K14 t9 h9 := by
     intro t9 h9 hw
     refine k14 _ _ (AW.le hw ?_)
     clear hw
     refine .aM rfl hs2 (fun hc3 hs2 => ?_) (fun hc3 hs2 => ?_)
     ·refine .q fun K15 k15 => ?_
      refine rg 0 ?_
      conv => whnf
      refine k15 _ _ ?_
      refine .ret ?_
      conv => whnf
      have e9 := sj hs2
      subst e9
      dsimp only [LR.el] at h
      have e9 := sj h
      subst e9
      refine hQ _ _ _ (aH aI (fun g => rfl) ?_)
      conv => whnf
     refine .skip ?_
     conv => whnf
     refine k12 _ _ ?_
     refine .know 51 0 fun hv1 => ?_
     refine .know 49 0 fun hv2 => ?_
     refine rg 0 ?_
     conv => whnf
     refine ⟨(s4 + 1), by have := fQ hv1; have := ko hv2; have h8 := of_decide_eq_true hc2; exact bT (by omega) (by omega), ?_⟩
     conv => whnf
     exact hKL2 _ _ _ hs2 (li (.u (.s (.u16 (.u16 (.u8 (.u4 (.u2 (.u (.s (.s (.s (.u16 (.u8 .n))))))))))))))
    refine rg 0 ?_
    conv => whnf
    obtain ⟨x4, hx4, hj2⟩ := ob hj2
    refine aJ (DR _ _ _ hx4) YR (.cons (.same _) .nil) (fun g => rfl) (fun g => rfl) ?_
    conv => whnf
    refine aD hj2 (fun hc4 hj2 => ?_) (fun hc4 hj2 => ?_)
    ·conv => whnf
     cases hj2
     exact e5x0 (hR4 _ _)
    conv => whnf
    obtain ⟨x5, hx5, hj2⟩ := ob hj2
    refine aJ (Bc _ _ _ hx5) YJ (.cons (.same _) .nil) (fun g => by simp) (fun g => rfl) ?_
    conv => whnf
    refine aD hj2 (fun hc5 hj2 => ?_) (fun hc5 hj2 => ?_)
    ·conv => whnf
     cases hj2
     exact e5x0 (hR4 _ _)
    conv => whnf
    obtain ⟨x6, hx6, hj2⟩ := ob hj2
    refine aJ (Df _ _ _ _ hx6) YP (.cons (.same _) (.cons (.same _) .nil)) (fun g => by simp) (fun g => rfl) ?_
    conv => whnf
    cases hj2
    exact e5x0 (hR4 _ _)
   refine .exit ?_
   conv => whnf
   exact hR3 _ (sj hs2).symm _ _ (li (.u (.s (.u16 (.u16 (.u16 (.u16 (.u8 (.u2 .n)))))))))
  refine .loopS (kE n p0) (fun (s2 : Int) => (.unk :: (.ptr 0 0 :: (u16 (u2 (.slice (List.map ah p0.carriers) .shared :: (.int .i64 (p0.carriers.length : Int) :: (.int .i64 s2 :: (u32 (u16 (u4 (.unk :: [])))))))))))) (fun (s2 : Int) => [.box [.slice (List.map ah p0.carriers) .shared, .slice (List.map aA p0.names) .shared]]) ho1 (fun _ => rfl) (li (.u (.s (.u16 (.u2 (.s (.s (.s (.u16 (.u16 (.u16 (.u4 (.u .n))))))))))))) ?_
  intro n1 s2 hs1 KL1 hKL1
  unfold kE at hs1
  refine .q fun K16 k16 => ?_
  refine rg 0 ?_
  conv => whnf
  refine k16 _ _ ?_
  refine .q fun K17 k17 => ?_
  refine .aM rfl hs1 (fun hc6 hs1 => ?_) (fun hc6 hs1 => ?_)
  ·refine .skip ?_
   conv => whnf
   refine k17 _ _ ?_
   refine .q fun K18 k18 => ?_
   refine .block ?_
   refine .q fun K19 k19 => ?_
   refine rg 1 ?_
   conv => whnf
   obtain ⟨x7, hx7, hs1⟩ := ob hs1
   refine bA (l := p0.carriers) (f := ah) (cs := [.str ((x7).name), .slice (List.map encS ((x7).elems)) .shared]) hx7 (rfl) rfl ?_
   conv => whnf
   refine k19 _ _ ?_
   refine .q fun K20 k20 => ?_
   refine .q fun K21 k21 => ?_
   obtain ⟨s7, hj3, hs1⟩ := ob hs1
   have hR5 : ∀ t9 h9, Le 0 t9 h9 (.unk :: (.ptr 0 0 :: (u2 (.ptr 1 0 :: (u8 (u4 (u2 (.unk :: (.slice (List.map ah p0.carriers) .shared :: (.int .i64 (p0.carriers.length : Int) :: (.int .i64 s2 :: (u8 (u4 (.bool s7 :: (u32 (u8 [])))))))))))))))) [.box [.slice (List.map ah p0.carriers) .shared, .slice (List.map aA p0.names) .shared], .box [.str x7.name, .slice (List.map encS x7.elems) .shared]] → K21 t9 h9 := by
    intro t9 h9 hw
    refine k21 _ _ (AW.le hw ?_)
    clear hw
    refine .aM rfl hs1 (fun hc7 hs1 => ?_) (fun hc7 hs1 => ?_)
    ·refine .q fun K22 k22 => ?_
     refine rg 0 ?_
     conv => whnf
     refine k22 _ _ ?_
     refine .ret ?_
     conv => whnf
     have e9 := sj hs1
     subst e9
     dsimp only [LR.el] at h
     have e9 := sj h
     subst e9
     refine hQ _ _ _ (aH aI (fun g => rfl) ?_)
     conv => whnf
    refine .skip ?_
    conv => whnf
    refine k20 _ _ ?_
    refine .q fun K23 k23 => ?_
    refine rg 0 ?_
    conv => whnf
    refine aU (l := x7.elems) (f := encS) ?_
    conv => whnf
    refine k23 _ _ ?_
    refine .block ?_
    obtain ⟨o3, ho3, hs1⟩ := ob hs1
    have hR6 : ∀ s9 : Unit, o3 = .nx s9 → ∀ t9 h9, Le 0 t9 h9 (.unk :: (.ptr 0 0 :: (u16 (u2 (.slice (List.map ah p0.carriers) .shared :: (.int .i64 (p0.carriers.length : Int) :: (.int .i64 s2 :: (u32 (u16 (u4 (.unk :: []))))))))))) [.box [.slice (List.map ah p0.carriers) .shared, .slice (List.map aA p0.names) .shared]] → K18 t9 h9 := by
     intro s9 ho
     subst ho
     dsimp only [LR.el] at hs1
     intro t9 h9 hw
     refine k18 _ _ (AW.le hw ?_)
     refine .know 22 0 fun hv3 => ?_
     refine .know 20 0 fun hv4 => ?_
     refine rg 0 ?_
     conv => whnf
     refine ⟨(s2 + 1), by have := fQ hv3; have := ko hv4; have h8 := of_decide_eq_true hc6; exact bT (by omega) (by omega), ?_⟩
     conv => whnf
     exact hKL1 _ _ _ hs1 (li (.u (.s (.u16 (.u2 (.s (.s (.s (.u16 (.u16 (.u16 (.u4 (.u .n)))))))))))))
    refine .loopS (gK n x7) (fun (s8 : Int) => (.unk :: (.ptr 0 0 :: (u16 (u2 (.slice (List.map ah p0.carriers) .shared :: (.int .i64 (p0.carriers.length : Int) :: (.int .i64 s2 :: (u8 (u4 (u2 (.slice (List.map encS x7.elems) .shared :: (.int .i64 (x7.elems.length : Int) :: (.int .i64 s8 :: (u32 (u4 [])))))))))))))))) (fun (s8 : Int) => [.box [.slice (List.map ah p0.carriers) .shared, .slice (List.map aA p0.names) .shared]]) ho3 (fun _ => rfl) (wk [some 0] (.u (.c rfl (.u16 (.u2 (.e aF (.c rfl (.c rfl (.u8 (.u4 (.u2 (.e bf (.c rfl (.c rfl (.u32 (.u4 .nil))))))))))))))) (.b rfl (.e aF (.e aN .nil)) .nil) rfl) ?_
    intro n3 s8 hs3 KL3 hKL3
    unfold gK at hs3
    refine .q fun K24 k24 => ?_
    refine rg 0 ?_
    conv => whnf
    refine k24 _ _ ?_
    refine .q fun K25 k25 => ?_
    refine .aM rfl hs3 (fun hc8 hs3 => ?_) (fun hc8 hs3 => ?_)
    ·refine .skip ?_
     conv => whnf
     refine k25 _ _ ?_
     refine .q fun K26 k26 => ?_
     refine .block ?_
     refine .q fun K27 k27 => ?_
     refine rg 0 ?_
     conv => whnf
     obtain ⟨x8, hx8, hs3⟩ := ob hs3
     refine bA (l := x7.elems) (f := encS) (cs := [.str (x8)]) hx8 (rfl) rfl ?_
     conv => whnf
     refine k27 _ _ ?_
     refine .q fun K28 k28 => ?_
     refine rg 0 ?_
     conv => whnf
     obtain ⟨x9, hx9, hs3⟩ := ob hs3
     refine aJ (mG _ _ _ hx9) G7 (.cons (.same _) .nil) (fun g => rfl) (fun g => rfl) ?_
     conv => whnf
     refine k28 _ _ ?_
     refine .aM rfl hs3 (fun hc9 hs3 => ?_) (fun hc9 hs3 => ?_)
     ·refine .q fun K29 k29 => ?_
      refine rg 0 ?_
      conv => whnf
      refine k29 _ _ ?_
      refine .ret ?_
      conv => whnf
      have e9 := sj hs3
      subst e9
      dsimp only [LR.el] at hs1
      have e9 := sj hs1
      subst e9
      dsimp only [LR.el] at h
      have e9 := sj h
      subst e9
      refine hQ _ _ _ (aH aI (fun g => rfl) ?_)
      conv => whnf
     refine .skip ?_
     conv => whnf
     refine k26 _ _ ?_
     refine .know 39 0 fun hv5 => ?_
     refine .know 37 0 fun hv6 => ?_
     refine rg 0 ?_
     conv => whnf
     refine ⟨(s8 + 1), by have := fQ hv5; have := ko hv6; have h8 := of_decide_eq_true hc8; exact bT (by omega) (by omega), ?_⟩
     conv => whnf
     exact hKL3 _ _ _ hs3 (li (.u (.s (.u16 (.u2 (.s (.s (.s (.u8 (.u4 (.u2 (.s (.s (.s (.u16 (.u16 (.u4 .n)))))))))))))))))
    refine .exit ?_
    conv => whnf
    exact hR6 _ (sj hs3).symm _ _ (li (.u (.s (.u16 (.u2 (.s (.s (.s (.u16 (.u16 (.u16 (.u4 (.u .n)))))))))))))
   refine rg 0 ?_
   conv => whnf
   obtain ⟨x10, hx10, hj3⟩ := ob hj3
   refine aJ (mG _ _ _ hx10) G7 (.cons (.same _) .nil) (fun g => rfl) (fun g => rfl) ?_
   conv => whnf
   refine aD hj3 (fun hc10 hj3 => ?_) (fun hc10 hj3 => ?_)
   ·conv => whnf
    cases hj3
    exact hR5 _ _ (li (.u (.s (.u2 (.s (.u8 (.u4 (.u2 (.u (.s (.s (.s (.u8 (.u4 (.s (.u16 (.u16 (.u8 .n))))))))))))))))))
   conv => whnf
   refine aU (l := x7.elems) (f := encS) ?_
   conv => whnf
   cases hj3
   exact hR5 _ _ (li (.u (.s (.u2 (.s (.u8 (.u4 (.u2 (.u (.s (.s (.s (.u8 (.u4 (.s (.u16 (.u16 (.u8 .n))))))))))))))))))
  refine .exit ?_
  conv => whnf
  exact hR2 _ (sj hs1).symm _ _ (li (.u (.s (.u16 (.u16 (.u16 (.u16 (.u8 (.u2 .n)))))))))
 refine rg 0 ?_
 conv => whnf
 refine aU (l := p0.carriers) (f := ah) ?_
 conv => whnf
 refine aD hj1 (fun hc11 hj1 => ?_) (fun hc11 hj1 => ?_)
 ·conv => whnf
  cases hj1
  exact hR1 _ _ (li (.u (.s (.u16 (.s (.u16 (.u16 (.u16 (.u8 (.u .n))))))))))
 conv => whnf
 refine aU (l := p0.names) (f := aA) ?_
 conv => whnf
 cases hj1
 exact hR1 _ _ (li (.u (.s (.u16 (.s (.u16 (.u16 (.u16 (.u8 (.u .n))))))))))
end Abs
end Go.Proofs.YtkopaeklihhdlaaGreat
