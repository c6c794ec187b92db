/-
  Contracts of Go functions (printed). Conditions: none.
-/
import Derived.KernelRfl
import Derived.Test.YtiiaccpcoclklaaGreatCAbs38x04b7ad
import Derived.Test.YtiiaccpcoclklaaGreatCDjx51e169
import Derived.Test.YtiiaccpcoclklaaGreatCYDx81c04b
import Derived.Test.YtiiaccpcoclklaaGreatCAwx7be38a
import Derived.Test.YtiiaccpcoclklaaGreatCT1xaae324
import Derived.Test.YtiiaccpcoclklaaGreatCT16xc0b479
import Derived.Test.YtiiaccpcoclklaaGreatCT19x1d9f53
import Derived.Test.YtiiaccpcoclklaaGreatCU5x5574ab
set_option linter.unusedSimpArgs false
set_option linter.unusedVariables false
namespace Go.Proofs.YtiiaccpcoclklaaGreat
namespace Abs
open Go Go.Proofs
set_option maxRecDepth 100000
set_option maxHeartbeats 40000000
abbrev R1_put_S (rec_R1_put : Tm → (List Int) → Tm → Option Tm) : Prop := ∀ (p0 : Tm) (p1 : List Int) (p2 : Tm) (r : Tm), rec_R1_put p0 p1 p2 = some r → aA Tryz.prog 80 [bC p0, uz p1, bC p2] [] (bC r) []
theorem XZ (n : Nat) (rec_R1_put : Tm → (List Int) → Tm → Option Tm) (hrec_R1_put : R1_put_S rec_R1_put) (p0 : Tm) (p1 : List Int) (p2 : Tm) (r : Tm) (h : tY n rec_R1_put p0 p1 p2 = some r) : aA Tryz.prog 80 [bC p0, uz p1, bC p2] [] (bC r) [] := by
 unfold tY at h
 refine ah true Tryz.func80 rfl (nt Tryz.ntmps80 rfl) fun Q hQ t ht => ?_
 conv at ht => whnf
 subst ht
 refine .q fun K1 k1 => rg 3 ?_
 refine k1 _ _ ?_
 refine .q fun K2 k2 => .q fun K3 k3 => rg 0 ?_
 refine bB (l := p1) (f := encI) ?_
 refine k3 _ _ ?_
 refine .aB rfl h (fun hc1 h => ?_) (fun hc1 h => ?_)
 ·refine .q fun K4 k4 => rg 1 ?_
  obtain ⟨x1, hx1, h⟩ := ob h
  refine bU [] [3] [bC p2] [bC p2] (N9 _ _ _ hx1) Dm rfl .nil (by simp; try decide) (.cons (.same _) .nil) (rn := .agg [.i p2.op, .str p2.name, .i p2.n, .i x1.1, .str x1.2.1, aH x1.2.2.1, .psl 3 7 (List.length x1.2.2.2)]) (by simp; try decide) (Hn := [.arr 7 (List.map aO x1.2.2.2)]) ((bK (congrArg (AObj.arr _) (aM _ _)) rfl)) ?_
  refine k4 _ _ ?_
  refine .le (t' := (bC p0 :: (uz p1 :: (bC p2 :: (.ptr 0 0 :: (.aZ [] :: (.ptr 1 0 :: (.ptr 2 0 :: (.aZ [] :: (uz p1 :: (.i (p1.length : Int) :: (.bool ((p1.length : Int) == 0) :: (bC p2 :: (.agg [.i p2.op, .str p2.name, .i p2.n, .i x1.1, .str x1.2.1, aH x1.2.2.1, bn x1.2.2.2] :: (.aZ [] :: (.aZ [] :: (.aZ [] :: (.aZ [] :: (.aZ [] :: (.aZ [] :: (.aZ [] :: (.aZ [] :: (.aZ [] :: (.aZ [] :: (.aZ [] :: (.aZ [] :: (.aZ [] :: (.aZ [] :: (.aZ [] :: (.aZ [] :: (.aZ [] :: (.aZ [] :: (.aZ [] :: (.aZ [] :: [])))))))))))))))))))))))))))))))))) (h' := [.box [.i p0.op, .str p0.name, .i p0.n, .i p0.ty.kind, .str p0.ty.name, aH p0.ty.kids, bn p0.kids], .box [.i p2.op, .str p2.name, .i p2.n, .i p2.ty.kind, .str p2.ty.name, aH p2.ty.kids, bn p2.kids], .box [.i p2.op, .str p2.name, .i p2.n, .i x1.1, .str x1.2.1, aH x1.2.2.1, bn x1.2.2.2]]) (wk [some 0, some 1, some 2] (.cons (.agg' (.c rfl (.c rfl (.c rfl (.c rfl (.c rfl (.e aD (.e aM .nil)))))))) (.e aQ (.cons (.agg' (.c rfl (.c rfl (.c rfl (.c rfl (.c rfl (.e aD (.e aM .nil)))))))) (.c rfl (.cons (.oz .nil) (.c rfl (.c rfl (.cons (.oz .nil) (.e aQ (.c rfl (.c rfl (.cons (.agg' (.c rfl (.c rfl (.c rfl (.c rfl (.c rfl (.e aD (.e aM .nil)))))))) (.cons (.agg' (.c rfl (.c rfl (.c rfl (.c rfl (.c rfl (.e aD (.cons (.Bw aM (bJ _) rfl rfl) .nil)))))))) (.cons (.oz .nil) (.cons (.oz .nil) (.cons (.oz .nil) (.cons (.oz .nil) (.cons (.oz .nil) (.cons (.oz .nil) (.cons (.oz .nil) (.cons (.oz .nil) (.cons (.oz .nil) (.cons (.oz .nil) (.cons (.oz .nil) (.cons (.oz .nil) (.cons (.oz .nil) (.cons (.oz .nil) (.cons (.oz .nil) (.cons (.oz .nil) (.cons (.oz .nil) (.cons (.oz .nil) (.cons (.oz .nil) (.cons (.oz .nil) .nil))))))))))))))))))))))))))))))))) (.b rfl (.c rfl (.c rfl (.c rfl (.c rfl (.c rfl (.e aD (.e aM .nil))))))) (.b rfl (.c rfl (.c rfl (.c rfl (.c rfl (.c rfl (.e aD (.e aM .nil))))))) (.b rfl (.c rfl (.c rfl (.c rfl (.c rfl (.c rfl (.e aD (.cons (.Bw aM (bJ _) rfl rfl) .nil))))))) .nil))) rfl) ?_
  refine .ret ?_
  have e9 := sj h
  subst e9
  refine hQ _ _ _ (aj aC (fun g => by simp) ?_)
  conv => whnf
  try rfl
 refine .skip ?_
 refine k2 _ _ ?_
 refine .q fun K5 k5 => rg 2 ?_
 obtain ⟨x2, hx2, h⟩ := ob h
 refine bU [] [3] [bC p0] [bC p0] (N9 _ _ _ hx2) Dm rfl .nil (by simp; try decide) (.cons (.same _) .nil) (rn := .agg [.i p0.op, .str p0.name, .i p0.n, .i x2.1, .str x2.2.1, aH x2.2.2.1, .psl 3 7 (List.length x2.2.2.2)]) (by simp; try decide) (Hn := [.arr 7 (List.map aO x2.2.2.2)]) ((bK (congrArg (AObj.arr _) (aM _ _)) rfl)) ?_
 refine k5 _ _ ?_
 refine .q fun K6 k6 => rg 0 ?_
 obtain ⟨x3, hx3, h⟩ := ob h
 refine aI (l := p1) (f := encI) (cs := [.i (x3)]) hx3 (rfl) rfl ?_
 obtain ⟨x4, hx4, h⟩ := ob h
 refine aI (l := p1) (f := encI) (cs := [.i (x4)]) hx4 (rfl) rfl ?_
 obtain ⟨x5, hx5, h⟩ := ob h
 refine aI (l := p0.kids) (f := aO) (cs := [.i ((x5).op), .str ((x5).name), .i ((x5).n), .i (((x5).ty).kind), .str (((x5).ty).name), aH (((x5).ty).kids), bn ((x5).kids)]) hx5 (aR x5) rfl ?_
 obtain ⟨x6, hx6, h⟩ := ob h
 refine ajz (l := p1) (f := encI) hx6 (.int _ _ _) (.none _) aeT ?_
 obtain ⟨x7, hx7, h⟩ := ob h
 refine cp (hrec_R1_put _ _ _ _ hx7) ahV (.cons (.same _) (.cons (.same _) (.cons (.same _) .nil))) ?_
 obtain ⟨x8, hx8, h⟩ := ob h
 refine ixp (l := x2.2.2.2) (l0 := x2.2.2.2) hx8 (by simp [upd]) ?_
 refine stp (l := x2.2.2.2) (f := aO) (v := x7) hx8 ((aR _).symm) (by decide) ?_
 refine ⟨rfl, ?_⟩
 refine k6 _ _ ?_
 refine .q fun K7 k7 => rg 0 ?_
 refine k7 _ _ ?_
 refine .le (t' := (bC p0 :: (uz p1 :: (bC p2 :: (.ptr 0 0 :: (.aZ [] :: (.ptr 1 0 :: (.ptr 2 0 :: (.ptr 3 0 :: (uz p1 :: (.i (p1.length : Int) :: (.bool ((p1.length : Int) == 0) :: (.aZ [] :: (.aZ [] :: (bC p0 :: (.agg [.i p0.op, .str p0.name, .i p0.n, .i x2.1, .str x2.2.1, aH x2.2.2.1, bn (upd x2.2.2.2 x3 x7)] :: (.ptr 3 6 :: (bn (upd x2.2.2.2 x3 x7) :: (uz p1 :: (.eptr [.i x3] :: (.i x3 :: (.ptr 0 6 :: (bn p0.kids :: (uz p1 :: (.eptr [.i x4] :: (.i x4 :: (.eptr [.i x5.op, .str x5.name, .i x5.n, .i x5.ty.kind, .str x5.ty.name, aH x5.ty.kids, bn x5.kids] :: (bC x5 :: (uz p1 :: (uz x6 :: (bC p2 :: (bC x7 :: (.unk :: (.agg [.i p0.op, .str p0.name, .i p0.n, .i x2.1, .str x2.2.1, aH x2.2.2.1, bn (upd x2.2.2.2 x3 x7)] :: [])))))))))))))))))))))))))))))))))) (h' := [.box [.i p0.op, .str p0.name, .i p0.n, .i p0.ty.kind, .str p0.ty.name, aH p0.ty.kids, bn p0.kids], .box [.i p2.op, .str p2.name, .i p2.n, .i p2.ty.kind, .str p2.ty.name, aH p2.ty.kids, bn p2.kids], .box [.i p0.op, .str p0.name, .i p0.n, .i x2.1, .str x2.2.1, aH x2.2.2.1, bn (upd x2.2.2.2 x3 x7)], .box [.i p0.op, .str p0.name, .i p0.n, .i x2.1, .str x2.2.1, aH x2.2.2.1, bn (upd x2.2.2.2 x3 x7)]]) (wk [some 0, some 1, some 2, some 4] (.cons (.agg' (.c rfl (.c rfl (.c rfl (.c rfl (.c rfl (.e aD (.e aM .nil)))))))) (.e aQ (.cons (.agg' (.c rfl (.c rfl (.c rfl (.c rfl (.c rfl (.e aD (.e aM .nil)))))))) (.c rfl (.cons (.oz .nil) (.c rfl (.c rfl (.c rfl (.e aQ (.c rfl (.c rfl (.cons (.oz .nil) (.cons (.oz .nil) (.cons (.agg' (.c rfl (.c rfl (.c rfl (.c rfl (.c rfl (.e aD (.e aM .nil)))))))) (.cons (.agg' (.c rfl (.c rfl (.c rfl (.c rfl (.c rfl (.e aD (.cons (VW.frzL (by simp [upd]) (.Bw aM (bJ _) rfl rfl)) .nil)))))))) (.c rfl (.cons (VW.frzL (by simp [upd]) (.Bw aM (bJ _) rfl rfl)) (.e aQ (.cons (.same (by simp)) (.c rfl (.c rfl (.e aM (.e aQ (.cons (.same (by simp)) (.c rfl (.cons (.same (by simp)) (.cons (.agg' (.c rfl (.c rfl (.c rfl (.c rfl (.c rfl (.e aD (.e aM .nil)))))))) (.e aQ (.e aQ (.cons (.agg' (.c rfl (.c rfl (.c rfl (.c rfl (.c rfl (.e aD (.e aM .nil)))))))) (.cons (.agg' (.c rfl (.c rfl (.c rfl (.c rfl (.c rfl (.e aD (.e aM .nil)))))))) (.u (.cons (.agg' (.c rfl (.c rfl (.c rfl (.c rfl (.c rfl (.e aD (.cons (VW.frzL (by simp [upd]) (.Bw aM (bJ _) rfl rfl)) .nil)))))))) .nil))))))))))))))))))))))))))))))))) (.b rfl (.c rfl (.c rfl (.c rfl (.c rfl (.c rfl (.e aD (.e aM .nil))))))) (.b rfl (.c rfl (.c rfl (.c rfl (.c rfl (.c rfl (.e aD (.e aM .nil))))))) (.b rfl (.c rfl (.c rfl (.c rfl (.c rfl (.c rfl (.e aD (.cons (VW.frzL (by simp [upd]) (.Bw aM (bJ _) rfl rfl)) .nil))))))) (.b rfl (.c rfl (.c rfl (.c rfl (.c rfl (.c rfl (.e aD (.cons (VW.frzL (by simp [upd]) (.Bw aM (bJ _) rfl rfl)) .nil))))))) .nil)))) rfl) ?_
 refine .ret ?_
 have e9 := sj h
 subst e9
 refine hQ _ _ _ (aj aC (fun g => by simp) ?_)
 conv => whnf
 try rfl
theorem afa (n : Nat) : R1_put_S (AZ n) := by
 induction n with
 | zero => exact (fun p0 p1 p2 r h => by unfold AZ at h; cases h)
 | succ n ih =>
  exact (fun p0 p1 p2 r h => XZ n _ ih p0 p1 p2 r (by unfold AZ at h; exact h))
theorem ahq (n : Nat) : R1_put_S (AZ n) := (afa n)
theorem Z6 (n : Nat) (p0 : Tm) (p1 : List Int) (p2 : Tm) (r : Tm × Int) (h : AY n p0 p1 p2 = some r) : aA Tryz.prog 27 [bC p0, uz p1, bC p2] [] (.aZ [bC r.1, .i r.2]) [] := by
 unfold AY at h
 refine ah true Tryz.func27 rfl (nt Tryz.ntmps27 rfl) fun Q hQ t ht => ?_
 conv at ht => whnf
 subst ht
 refine .q fun K1 k1 => rg 3 ?_
 refine k1 _ _ ?_
 refine .q fun K2 k2 => .q fun K3 k3 => ?_
 obtain ⟨s1, hj1, h⟩ := ob h
 have hR1 : ∀ t9 h9, Le 0 t9 h9 (.unk :: (uz p1 :: (.unk :: (.ptr 0 0 :: (.unk :: (.ptr 1 0 :: (.ptr 2 0 :: (u8 (u2 (.unk :: (.bool s1 :: (u16 (u4 []))))))))))))) [.box [.i p0.op, .str p0.name, .i p0.n, .i p0.ty.kind, .str p0.ty.name, aH p0.ty.kids, bn p0.kids], .box [.i p2.op, .str p2.name, .i p2.n, .i p2.ty.kind, .str p2.ty.name, aH p2.ty.kids, bn p2.kids], .box [.i 0, .str ([] : Str), .i 0, .i 0, .str ([] : Str), .slice (List.map aF ([] : List Ty)) .nils, .slice (List.map aO ([] : List Tm)) .nils]] → K3 t9 h9 := by
  intro t9 h9 hw
  refine k3 _ _ (AW.le hw ?_)
  clear hw
  refine .aB rfl h (fun hc1 h => ?_) (fun hc1 h => ?_)
  ·refine .q fun K4 k4 => rg 0 ?_
   refine k4 _ _ ?_
   refine .ret ?_
   have e9 := sj h
   subst e9
   refine hQ _ _ _ (aj aC (fun g => by simp) ?_)
   conv => whnf
   try rfl
  refine .skip ?_
  refine k2 _ _ ?_
  refine .q fun K5 k5 => .q fun K6 k6 => rg 1 ?_
  obtain ⟨x1, hx1, h⟩ := ob h
  refine cp (RY _ _ _ _ hx1) aaO (.cons (.same _) (.cons (.same _) .nil)) ?_
  refine k6 _ _ ?_
  refine .q fun K7 k7 => rg 0 ?_
  refine k7 _ _ ?_
  refine .aB rfl h (fun hc2 h => ?_) (fun hc2 h => ?_)
  ·refine .q fun K8 k8 => rg 0 ?_
   refine k8 _ _ ?_
   refine .ret ?_
   have e9 := sj h
   subst e9
   refine hQ _ _ _ (aj aC (fun g => by simp) ?_)
   conv => whnf
   try rfl
  refine .skip ?_
  refine k5 _ _ ?_
  refine .q fun K9 k9 => rg 1 ?_
  obtain ⟨x2, hx2, h⟩ := ob h
  refine cp (ahq _ _ _ _ _ hx2) ahV (.cons (.same _) (.cons (.same _) (.cons (.same _) .nil))) ?_
  refine k9 _ _ ?_
  refine .q fun K10 k10 => .q fun K11 k11 => rg 0 ?_
  obtain ⟨x3, hx3, h⟩ := ob h
  refine ak (mR _ _ _ hx3) y5 (.cons (.same _) .nil) (fun g => by simp) (fun g => rfl) ?_
  refine k11 _ _ ?_
  refine .aB rfl h (fun hc3 h => ?_) (fun hc3 h => ?_)
  ·refine .q fun K12 k12 => rg 0 ?_
   refine k12 _ _ ?_
   refine .ret ?_
   have e9 := sj h
   subst e9
   refine hQ _ _ _ (aj aC (fun g => by simp) ?_)
   conv => whnf
   try rfl
  refine .skip ?_
  refine k10 _ _ ?_
  refine .q fun K13 k13 => rg 0 ?_
  refine k13 _ _ ?_
  refine .ret ?_
  have e9 := sj h
  subst e9
  refine hQ _ _ _ (aj aC (fun g => by simp) ?_)
  conv => whnf
  try rfl
 refine rg 0 ?_
 obtain ⟨x4, hx4, hj1⟩ := ob hj1
 refine ak (mR _ _ _ hx4) y5 (.cons (.same _) .nil) (fun g => by simp) (fun g => rfl) ?_
 refine aG hj1 (fun hc4 hj1 => ?_) (fun hc4 hj1 => ?_)
 ·cases hj1
  exact hR1 _ _ (li (.u (.s (.u (.s (.u (.s (.s (.u8 (.u2 (.u (.s (.u16 (.u4 .n))))))))))))))
 obtain ⟨x5, hx5, hj1⟩ := ob hj1
 refine ak (mR _ _ _ hx5) y5 (.cons (.same _) .nil) (fun g => by simp) (fun g => rfl) ?_
 cases hj1
 exact hR1 _ _ (li (.u (.s (.u (.s (.u (.s (.s (.u8 (.u2 (.u (.s (.u16 (.u4 .n))))))))))))))
theorem y3x0 {p q : Prop} (f : p → q) (h : p := by exact wk [some 0, some 3, some 7] (.u2 (.u (.c rfl (.u4 (.u (.c rfl (.u8 (.u4 (.c rfl (.u64 (.u8 (.u4 (.u (.c rfl (.u16 (.u2 .nil)))))))))))))))) (.b rfl (.e aK (.e aN .nil)) (.b rfl (.c rfl (.c rfl (.e aD .nil))) (.b rfl (.c rfl (.c rfl (.c rfl (.c rfl (.c rfl (.e aD (.e aM .nil))))))) .nil))) rfl) : q := f h
theorem y3x1 {p q : Prop} (f : p → q) (h : p := by exact wk [some 0, some 1, some 3, some 4, some 5] (.u2 (.u (.c rfl (.c rfl (.u2 (.e aQ (.c rfl (.c rfl (.u2 (.c rfl (.u32 (.u16 (.u2 (.u (.c rfl (.u32 (.u16 (.u4 (.u2 .nil))))))))))))))))))) (.b rfl (.e aK (.e aN .nil)) (.b rfl (.c rfl (.c rfl (.c rfl (.c rfl (.c rfl (.e aD (.e aM .nil))))))) (.b rfl (.c rfl (.c rfl (.c rfl (.c rfl (.c rfl (.e aD (.e aM .nil))))))) (.b rfl (.c rfl (.c rfl (.e aD .nil))) (.b rfl (.c rfl (.c rfl (.c rfl (.c rfl (.c rfl (.e aD (.e aM .nil))))))) .nil))))) rfl) : q := f h
theorem JL (n : Nat) (p0 : Env) (p1 : Tm) (p2 : S_refinementlaw02_Put) (r : Bool) (h : uE n p0 p1 p2 = some r) : aA Tryz.prog 5 [jX p0, bC p1, .agg [uz p2.path, .i p2.term.op, .str p2.term.name, .i p2.term.n, .i p2.term.ty.kind, .str p2.term.ty.name, aH p2.term.ty.kids, bn p2.term.kids]] [] (.bool r) [] := by
 unfold uE at h
 refine ah true Tryz.func5 rfl (nt Tryz.ntmps5 rfl) fun Q hQ t ht => ?_
 conv at ht => whnf
 subst ht
 refine .q fun K1 k1 => rg 3 ?_
 refine k1 _ _ ?_
 refine .q fun K2 k2 => rg 1 ?_
 refine ⟨rfl, ?_⟩
 refine k2 _ _ ?_
 refine .q fun K3 k3 => .q fun K4 k4 => rg 0 ?_
 obtain ⟨x1, hx1, h⟩ := ob h
 refine ak (wP _ _ _ hx1) Ir (.cons (.same _) .nil) (fun g => by simp) (fun g => rfl) ?_
 refine k4 _ _ ?_
 refine .aB rfl h (fun hc1 h => ?_) (fun hc1 h => ?_)
 ·refine .q fun K5 k5 => rg 0 ?_
  obtain ⟨x2, hx2, h⟩ := ob h
  refine ak (gX _ _ hx2) qg .nil (fun g => rfl) (fun g => rfl) ?_
  refine k5 _ _ ?_
  refine .ret ?_
  have e9 := sj h
  subst e9
  refine hQ _ _ _ (aj aC (fun g => rfl) ?_)
  conv => whnf
 refine .skip ?_
 refine k3 _ _ ?_
 refine .q fun K6 k6 => rg 1 ?_
 obtain ⟨x3, hx3, h⟩ := ob h
 refine cp (kG _ _ _ _ hx3) Db (.cons (.same _) (.cons (.same _) .nil)) ?_
 refine k6 _ _ ?_
 refine .q fun K7 k7 => rg 1 ?_
 obtain ⟨x4, hx4, h⟩ := ob h
 refine cp (RY _ _ _ _ hx4) aaO (.cons (.same _) (.cons (.same _) .nil)) ?_
 refine k7 _ _ ?_
 refine .q fun K8 k8 => rg 0 ?_
 obtain ⟨x5, hx5, h⟩ := ob h
 refine cp (acC _ _ _ _ hx5) al9 (.cons (.same _) (.cons (.same _) .nil)) ?_
 refine k8 _ _ ?_
 refine .q fun K9 k9 => .q fun K10 k10 => ?_
 obtain ⟨s1, hj1, h⟩ := ob h
 have hR1 : ∀ t9 h9, Le 0 t9 h9 (u2 (.unk :: (.ptr 0 0 :: (.ptr 1 0 :: (u2 (uz p2.path :: (.ptr 2 0 :: (.ptr 3 0 :: (u2 (.ptr 4 0 :: (u32 (u16 (u2 (.unk :: (.bool s1 :: (u32 (u16 (u4 (u2 []))))))))))))))))))) [.box [dS p0.carriers, dV p0.names], .box [.i p1.op, .str p1.name, .i p1.n, .i p1.ty.kind, .str p1.ty.name, aH p1.ty.kids, bn p1.kids], .box [.i p2.term.op, .str p2.term.name, .i p2.term.n, .i p2.term.ty.kind, .str p2.term.ty.name, aH p2.term.ty.kids, bn p2.term.kids], .box [.i x3.1.kind, .str x3.1.name, aH x3.1.kids], .box [.i x4.1.op, .str x4.1.name, .i x4.1.n, .i x4.1.ty.kind, .str x4.1.ty.name, aH x4.1.ty.kids, bn x4.1.kids]] → K10 t9 h9 := by
  intro t9 h9 hw
  refine k10 _ _ (AW.le hw ?_)
  clear hw
  refine .aB rfl h (fun hc2 h => ?_) (fun hc2 h => ?_)
  ·refine .q fun K11 k11 => rg 0 ?_
   obtain ⟨x6, hx6, h⟩ := ob h
   refine ak (gX _ _ hx6) qg .nil (fun g => rfl) (fun g => rfl) ?_
   refine k11 _ _ ?_
   refine .ret ?_
   have e9 := sj h
   subst e9
   refine hQ _ _ _ (aj aC (fun g => rfl) ?_)
   conv => whnf
  refine .skip ?_
  refine k9 _ _ ?_
  refine .q fun K12 k12 => rg 1 ?_
  obtain ⟨x7, hx7, h⟩ := ob h
  refine cp (kG _ _ _ _ hx7) Db (.cons (.same _) (.cons (.same _) .nil)) ?_
  refine k12 _ _ ?_
  refine .q fun K13 k13 => rg 1 ?_
  obtain ⟨x8, hx8, h⟩ := ob h
  refine cp (kG _ _ _ _ hx8) Db (.cons (.same _) (.cons (.same _) .nil)) ?_
  refine k13 _ _ ?_
  refine .q fun K14 k14 => .q fun K15 k15 => rg 0 ?_
  refine k15 _ _ ?_
  refine .aB rfl h (fun hc3 h => ?_) (fun hc3 h => ?_)
  ·refine .q fun K16 k16 => rg 0 ?_
   refine k16 _ _ ?_
   refine .ret ?_
   have e9 := sj h
   subst e9
   refine hQ _ _ _ (aj aC (fun g => rfl) ?_)
   conv => whnf
  refine .skip ?_
  refine k14 _ _ ?_
  refine .q fun K17 k17 => rg 1 ?_
  obtain ⟨x9, hx9, h⟩ := ob h
  refine cp (Z6 _ _ _ _ _ hx9) amg (.cons (.same _) (.cons (.same _) (.cons (.same _) .nil))) ?_
  refine k17 _ _ ?_
  refine .q fun K18 k18 => .q fun K19 k19 => ?_
  obtain ⟨s2, hj2, h⟩ := ob h
  have hR2 : ∀ t9 h9, Le 0 t9 h9 (u2 (.unk :: (.ptr 0 0 :: (u4 (.unk :: (.ptr 1 0 :: (u8 (u4 (.ptr 2 0 :: (u64 (u8 (u4 (.unk :: (.bool s2 :: (u16 (u2 [])))))))))))))))) [.box [dS p0.carriers, dV p0.names], .box [.i x3.1.kind, .str x3.1.name, aH x3.1.kids], .box [.i x9.1.op, .str x9.1.name, .i x9.1.n, .i x9.1.ty.kind, .str x9.1.ty.name, aH x9.1.ty.kids, bn x9.1.kids]] → K19 t9 h9 := by
   intro t9 h9 hw
   refine k19 _ _ (AW.le hw ?_)
   clear hw
   refine .aB rfl h (fun hc4 h => ?_) (fun hc4 h => ?_)
   ·refine .q fun K20 k20 => rg 0 ?_
    obtain ⟨x10, hx10, h⟩ := ob h
    refine ak (gX _ _ hx10) qg .nil (fun g => rfl) (fun g => rfl) ?_
    refine k20 _ _ ?_
    refine .ret ?_
    have e9 := sj h
    subst e9
    refine hQ _ _ _ (aj aC (fun g => rfl) ?_)
    conv => whnf
   refine .skip ?_
   refine k18 _ _ ?_
   refine .q fun K21 k21 => rg 1 ?_
   obtain ⟨x11, hx11, h⟩ := ob h
   refine cp (kG _ _ _ _ hx11) Db (.cons (.same _) (.cons (.same _) .nil)) ?_
   refine k21 _ _ ?_
   refine .q fun K22 k22 => ?_
   obtain ⟨s3, hj3, h⟩ := ob h
   have hR3 : ∀ t9 h9, Le 0 t9 h9 (u4 (u2 (.bool s3 :: (u64 (u32 (u16 [])))))) [] → K22 t9 h9 := by
    intro t9 h9 hw
    refine k22 _ _ (AW.le hw ?_)
    clear hw
    refine .ret ?_
    have e9 := sj h
    subst e9
    refine hQ _ _ _ (aj aC (fun g => rfl) ?_)
    conv => whnf
   refine rg 0 ?_
   refine aG hj3 (fun hc5 hj3 => ?_) (fun hc5 hj3 => ?_)
   ·obtain ⟨x12, hx12, hj3⟩ := ob hj3
    refine ak (dN _ _ _ _ hx12) mH (.cons (.same _) (.cons (.same _) .nil)) (fun g => by simp) (fun g => rfl) ?_
    refine aG hj3 (fun hc6 hj3 => ?_) (fun hc6 hj3 => ?_)
    ·obtain ⟨x13, hx13, hj3⟩ := ob hj3
     refine ak (gX _ _ hx13) qg .nil (fun g => rfl) (fun g => rfl) ?_
     cases hj3
     exact hR3 _ _ (wk [] (.u4 (.u2 (.c rfl (.u64 (.u32 (.u16 .nil)))))) .nil rfl)
    cases hj3
    exact hR3 _ _ (wk [] (.u4 (.u2 (.c rfl (.u64 (.u32 (.u16 .nil)))))) .nil rfl)
   cases hj3
   exact hR3 _ _ (wk [] (.u4 (.u2 (.c rfl (.u64 (.u32 (.u16 .nil)))))) .nil rfl)
  refine rg 0 ?_
  refine aG hj2 (fun hc7 hj2 => ?_) (fun hc7 hj2 => ?_)
  ·cases hj2
   exact y3x0 (hR2 _ _)
  refine aG hj2 (fun hc8 hj2 => ?_) (fun hc8 hj2 => ?_)
  ·cases hj2
   exact y3x0 (hR2 _ _)
  obtain ⟨x14, hx14, hj2⟩ := ob hj2
  refine ak (dN _ _ _ _ hx14) mH (.cons (.same _) (.cons (.same _) .nil)) (fun g => by simp) (fun g => rfl) ?_
  cases hj2
  exact y3x0 (hR2 _ _)
 refine rg 0 ?_
 refine aG hj1 (fun hc9 hj1 => ?_) (fun hc9 hj1 => ?_)
 ·cases hj1
  exact y3x1 (hR1 _ _)
 refine aG hj1 (fun hc10 hj1 => ?_) (fun hc10 hj1 => ?_)
 ·cases hj1
  exact y3x1 (hR1 _ _)
 refine bB (l := x5.1) (f := encS) ?_
 cases hj1
 exact y3x1 (hR1 _ _)
end Abs
end Go.Proofs.YtiiaccpcoclklaaGreat
