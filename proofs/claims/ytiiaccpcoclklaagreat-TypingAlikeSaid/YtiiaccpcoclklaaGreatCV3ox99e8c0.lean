/-
  Contracts of Go functions (printed). Conditions: none.
-/
import Derived.KernelRfl
import Derived.Test.YtiiaccpcoclklaaGreatCT17x96ddbc
import Derived.Test.YtiiaccpcoclklaaGreatCDhoxdcaf96
set_option linter.unusedSimpArgs false
set_option linter.unusedVariables false
namespace Go.Proofs.YtiiaccpcoclklaaGreat
namespace Abs
open Go Go.Proofs
set_option maxRecDepth 100000
set_option maxHeartbeats 40000000
theorem Gq (n : Nat) (p0 : List Str) (p1 : Str) (r : List Str) (h : uN n p0 p1 = some r) : ak Tryz.prog 152 [bQ p0, .str p1] [] (bQ r) [] := by
 unfold uN at h
 refine ah true Tryz.func152 rfl (nt Tryz.ntmps152 rfl) fun Q hQ t ht => ?_
 conv at ht => whnf
 subst ht
 refine .q fun K1 k1 => rg 0 ?_
 refine k1 _ _ ?_
 refine .q fun K2 k2 => rg 4 ?_
 refine ⟨List.map encS ([] : List Str), rfl, ?_⟩
 obtain ⟨x1, hx1, h⟩ := ob h
 refine dW (l := ([] : List Str)) (ys := p0) (f := encS) hx1 wU rfl rfl rfl ?_
 refine ⟨List.map encS ([p1]), rfl, ?_⟩
 obtain ⟨x2, hx2, h⟩ := ob h
 refine dW (l := x1) (ys := [p1]) (f := encS) hx2 wU rfl rfl rfl ?_
 refine k2 _ _ ?_
 refine .ret ?_
 have e9 := sj h
 subst e9
 refine hQ _ _ _ (aj aD (fun g => by simp) ?_)
 conv => whnf
 try rfl
abbrev R1_free_S (rec_R1_free : Tm → (List Str) → Option (List Str)) : Prop := ∀ (p0 : Tm) (p1 : List Str) (r : List Str), rec_R1_free p0 p1 = some r → ak Tryz.prog 109 [bg p0, bQ p1] [] (.slice (List.map encS r) (.tip 0 1)) [.tip (List.length r * 1)]
theorem XI (n : Nat) (rec_R1_free : Tm → (List Str) → Option (List Str)) (hrec_R1_free : R1_free_S rec_R1_free) (p0 : Tm) (p1 : List Str) (r : List Str) (h : zN n rec_R1_free p0 p1 = some r) : ak Tryz.prog 109 [bg p0, bQ p1] [] (.slice (List.map encS r) (.tip 0 1)) [.tip (List.length r * 1)] := by
 unfold zN at h
 refine ah false Tryz.func109 rfl (nt Tryz.ntmps109 rfl) fun Q hQ t ht => ?_
 conv at ht => whnf
 subst ht
 refine .q fun K1 k1 => rg 1 ?_
 refine k1 _ _ ?_
 refine .q fun K2 k2 => .q fun K3 k3 => rg 0 ?_
 refine k3 _ _ ?_
 refine .aC rfl h (fun hc1 h => ?_) (fun hc1 h => ?_)
 ·refine .q fun K4 k4 => .q fun K5 k5 => rg 0 ?_
  obtain ⟨x1, hx1, h⟩ := ob h
  refine au (uf _ _ _ _ hx1) zW (.cons (.same _) (.cons (.same _) .nil)) (fun g => by simp) (fun g => rfl) ?_
  refine k5 _ _ ?_
  refine .aC rfl h (fun hc2 h => ?_) (fun hc2 h => ?_)
  ·refine .q fun K6 k6 => rg 0 ?_
   refine k6 _ _ ?_
   refine .ret ?_
   have e9 := sj h
   subst e9
   refine hQ _ _ _ (dI (u4 (.slice (List.map encS ([] : List Str)) (.tip 0 1) :: (u32 (u8 (u2 []))))) [.tip (List.length ([]) * 1)] (wk [none] (.u4 (.cons (.nils _ _) (.u32 (.u8 (.u2 .nil))))) (.w rfl .nil) rfl) (bP aD [0] rfl (.cons (rfl) .nil) ?_))
   conv => whnf
   first | rfl | (simp; done) | (simp; rfl) | (simp; constructor <;> rfl)
  refine .skip ?_
  refine k4 _ _ ?_
  refine .q fun K7 k7 => rg 1 ?_
  refine ⟨List.map encS ([p0.name]), rfl, ?_⟩
  refine k7 _ _ ?_
  refine .ret ?_
  have e9 := sj h
  subst e9
  refine hQ _ _ _ (dI (u4 (.slice (List.map encS ([p0.name])) (.tip 0 1) :: (u32 (u8 (u2 []))))) [.tip (List.length ([p0.name]) * 1)] (wk [some 1] (.u4 (.cons (.bF (aZ _ _) rfl) (.u32 (.u8 (.u2 .nil))))) (.t rfl .nil) rfl) (bP aD [0] rfl (.cons (rfl) .nil) ?_))
  conv => whnf
  first | rfl | (simp; done) | (simp; rfl) | (simp; constructor <;> rfl)
 refine .skip ?_
 refine k2 _ _ ?_
 refine .q fun K8 k8 => rg 0 ?_
 refine k8 _ _ ?_
 refine .q fun K9 k9 => .q fun K10 k10 => rg 0 ?_
 refine k10 _ _ ?_
 refine .block ?_
 obtain ⟨o1, ho1, h⟩ := ob h
 have hR1 : ∀ s2 : List Str, o1 = .nx s2 → ∀ t9 h9, Le 0 t9 h9 (u4 (.unk :: (.slice (List.map encS s2) (.tip 0 1) :: (u32 (u8 (.unk :: [])))))) [.tip (List.length s2 * 1)] → K9 t9 h9 := by
  intro s2 ho
  subst ho
  dsimp only [LR.el] at h
  intro t9 h9 hw
  refine k9 _ _ (AW.le hw ?_)
  refine .q fun K11 k11 => rg 0 ?_
  refine k11 _ _ ?_
  refine .ret ?_
  have e9 := sj h
  subst e9
  refine hQ _ _ _ (dI (u4 (.slice (List.map encS s2) (.tip 0 1) :: (u32 (u8 (u2 []))))) [.tip (List.length s2 * 1)] (wk [some 0] (.u4 (.cons (.bF (aZ _ _) rfl) (.u32 (.u8 (.u2 .nil))))) (.t rfl .nil) rfl) (bP aD [0] rfl (.cons (rfl) .nil) ?_))
  conv => whnf
  first | rfl | (simp; done) | (simp; rfl) | (simp; constructor <;> rfl)
 refine .loopS (D5 n rec_R1_free p0 p1) (fun (s1 : (List Str) × Int) => (.unk :: (bQ p1 :: (.ptr 0 0 :: (u2 (.slice (List.map encS s1.1) (.tip 1 1) :: (.i s1.2 :: (u32 (u8 []))))))))) (fun (s1 : (List Str) × Int) => [.box [.i p0.op, .str p0.name, .i p0.n, .i p0.ty.kind, .str p0.ty.name, aI p0.ty.kids, bn p0.kids], .tip (List.length s1.1 * 1)]) ho1 (fun _ => rfl) (wk [some 0, none] (.u (.e aZ (.c rfl (.u2 (.cons (.nils _ _) (.c rfl (.u32 (.u8 .nil)))))))) (.b rfl (.c rfl (.c rfl (.c rfl (.c rfl (.c rfl (.e aB (.e aN .nil))))))) (.w rfl .nil)) rfl) ?_
 intro n1 s1 hs1 KL1 hKL1
 unfold D5 at hs1
 refine .q fun K12 k12 => .q fun K13 k13 => rg 0 ?_
 refine aW (l := p0.kids) (f := aS) ?_
 refine k13 _ _ ?_
 refine .aC rfl hs1 (fun hc3 hs1 => ?_) (fun hc3 hs1 => ?_)
 ·refine .skip ?_
  refine k12 _ _ ?_
  refine .q fun K14 k14 => ?_
  refine .block ?_
  refine .q fun K15 k15 => rg 0 ?_
  refine k15 _ _ ?_
  refine .q fun K16 k16 => ?_
  obtain ⟨s3, hj1, hs1⟩ := ob hs1
  have hR2 : ∀ t9 h9, Le 0 t9 h9 (.unk :: (bQ p1 :: (.ptr 0 0 :: (u2 (.slice (List.map encS s1.1) (.tip 1 1) :: (.i s1.2 :: (bQ s3 :: (u32 (u4 (u2 (.unk :: []))))))))))) [.box [.i p0.op, .str p0.name, .i p0.n, .i p0.ty.kind, .str p0.ty.name, aI p0.ty.kids, bn p0.kids], .tip (List.length s1.1 * 1)] → K16 t9 h9 := by
   intro t9 h9 hw
   refine k16 _ _ (AW.le hw ?_)
   clear hw
   refine rg 2 ?_
   obtain ⟨x2, hx2, hs1⟩ := ob hs1
   refine aJ (l := p0.kids) (f := aS) (cs := [.i ((x2).op), .str ((x2).name), .i ((x2).n), .i (((x2).ty).kind), .str (((x2).ty).name), aI (((x2).ty).kids), bn ((x2).kids)]) hx2 (aX x2) rfl ?_
   obtain ⟨x3, hx3, hs1⟩ := ob hs1
   refine bM [] [2] [bg x2, bQ s3] [bg x2, bQ s3] (hrec_R1_free _ _ _ hx3) KU rfl .nil (by simp; try decide) (.cons (.same _) (.cons (.same _) .nil)) (rn := .slice (List.map encS x3) (.tip 2 1)) (by simp; try decide) (Hn := [.tip (List.length x3 * 1)]) ((bI (rfl) rfl)) ?_
   obtain ⟨x4, hx4, hs1⟩ := ob hs1
   refine dW (l := s1.1) (ys := x3) (f := encS) hx4 wU rfl rfl rfl ?_
   refine k14 _ _ ?_
   refine .know 6 0 fun hv1 => ?_
   refine .know 39 0 fun hv2 => ?_
   refine rg 0 ?_
   refine ⟨(s1.2 + 1), by have := dn hv1; have := eP hv2; have h8 := of_decide_eq_true hc3; exact bG (by omega) (by omega), ?_⟩
   exact hKL1 _ _ _ hs1 (wk [some 0, some 3] (.u (.e aZ (.c rfl (.u2 (.cons (.bF (aZ _ _) rfl) (.c rfl (.u32 (.u8 .nil)))))))) (.b rfl (.c rfl (.c rfl (.c rfl (.c rfl (.c rfl (.e aB (.e aN .nil))))))) (.t rfl .nil)) rfl)
  refine .q fun K17 k17 => ?_
  obtain ⟨s4, hj2, hj1⟩ := ob hj1
  have hR3 : ∀ t9 h9, Le 0 t9 h9 (.unk :: (bQ p1 :: (.ptr 0 0 :: (u2 (.slice (List.map encS s1.1) (.tip 1 1) :: (.i s1.2 :: (bQ p1 :: (u16 (u8 (.bool s4 :: (u8 (u4 (u2 []))))))))))))) [.box [.i p0.op, .str p0.name, .i p0.n, .i p0.ty.kind, .str p0.ty.name, aI p0.ty.kids, bn p0.kids], .tip (List.length s1.1 * 1)] → K17 t9 h9 := by
   intro t9 h9 hw
   refine k17 _ _ (AW.le hw ?_)
   clear hw
   refine .aC rfl hj1 (fun hc4 hj1 => ?_) (fun hc4 hj1 => ?_)
   ·refine rg 0 ?_
    obtain ⟨x5, hx5, hj1⟩ := ob hj1
    refine cp (Gq _ _ _ _ hx5) RD (.cons (.same _) (.cons (.same _) .nil)) ?_
    cases hj1
    exact hR2 _ _ (li (.u (.s (.s (.u2 (.s (.s (.s (.u16 (.u16 (.u4 (.u2 (.u .n)))))))))))))
   refine .skip ?_
   cases hj1
   exact hR2 _ _ (li (.u (.s (.s (.u2 (.s (.s (.s (.u16 (.u16 (.u4 (.u2 (.u .n)))))))))))))
  refine rg 0 ?_
  obtain ⟨x6, hx6, hj2⟩ := ob hj2
  refine au (qD _ _ _ hx6) E8 (.cons (.same _) .nil) (fun g => rfl) (fun g => rfl) ?_
  refine aH hj2 (fun hc5 hj2 => ?_) (fun hc5 hj2 => ?_)
  ·cases hj2
   exact hR3 _ _ (li (.u (.s (.s (.u2 (.s (.s (.s (.u16 (.u8 (.s (.u8 (.u4 (.u2 .n))))))))))))))
  cases hj2
  exact hR3 _ _ (li (.u (.s (.s (.u2 (.s (.s (.s (.u16 (.u8 (.s (.u8 (.u4 (.u2 .n))))))))))))))
 refine .exit ?_
 exact hR1 _ (sj hs1).symm _ _ (wk [some 1] (.u4 (.u (.cons (.bF (aZ _ _) rfl) (.u32 (.u8 (.u .nil)))))) (.t rfl .nil) rfl)
theorem agA (n : Nat) : R1_free_S (p8 n) := by
 induction n with
 | zero => exact (fun p0 p1 r h => by unfold p8 at h; cases h)
 | succ n ih =>
  exact (fun p0 p1 r h => XI n _ ih p0 p1 r (by unfold p8 at h; exact h))
theorem Gy (n : Nat) : R1_free_S (p8 n) := (agA n)
theorem MR (n : Nat) (p0 : Tm) (r : List Str) (h : CX n p0 = some r) : ak Tryz.prog 49 [bg p0] [] (bQ r) [] := by
 unfold CX at h
 refine ah true Tryz.func49 rfl (nt Tryz.ntmps49 rfl) fun Q hQ t ht => ?_
 conv at ht => whnf
 subst ht
 refine .q fun K1 k1 => rg 1 ?_
 refine k1 _ _ ?_
 refine .q fun K2 k2 => .q fun K3 k3 => rg 0 ?_
 obtain ⟨x1, hx1, h⟩ := ob h
 refine au (jE _ _ _ hx1) uP (.cons (.same _) .nil) (fun g => by simp) (fun g => rfl) ?_
 refine k3 _ _ ?_
 refine .aC rfl h (fun hc1 h => ?_) (fun hc1 h => ?_)
 ·refine .q fun K4 k4 => rg 0 ?_
  refine k4 _ _ ?_
  refine .ret ?_
  have e9 := sj h
  subst e9
  refine hQ _ _ _ (aj aD (fun g => by simp) ?_)
  conv => whnf
  try rfl
 refine .skip ?_
 refine k2 _ _ ?_
 refine .q fun K5 k5 => rg 1 ?_
 obtain ⟨x2, hx2, h⟩ := ob h
 refine bM [] [1] [bg p0, bQ ([] : List Str)] [bg p0, bQ ([] : List Str)] (Gy _ _ _ _ hx2) KU rfl .nil (by simp; try decide) (.cons (.same _) (.cons (.share _ _) .nil)) (rn := .slice (List.map encS x2) (.tip 1 1)) (by simp; try decide) (Hn := [.tip (List.length x2 * 1)]) ((bI (rfl) rfl)) ?_
 obtain ⟨x3, hx3, h⟩ := ob h
 refine cp (Pd _ _ _ hx3) ahe (.cons (.share _ _) .nil) ?_
 refine k5 _ _ ?_
 refine .ret ?_
 have e9 := sj h
 subst e9
 refine hQ _ _ _ (aj aD (fun g => by simp) ?_)
 conv => whnf
 try rfl
end Abs
end Go.Proofs.YtiiaccpcoclklaaGreat
namespace Go.Proofs.YtiiaccpcoclklaaGreat
namespace Abs
open Go Go.Proofs
def aU (x : S_api_Binding) : List AV := [.str x.name, .int .i64 x.term.op, .str x.term.name, .int .i64 x.term.n, .int .i64 x.term.ty.kind, .str x.term.ty.name, .slice (List.map aK x.term.ty.kids) .shared, .slice (List.map aS x.term.kids) .shared]
theorem dB (g : Nat → Nat) (l : List S_api_Binding) : bK g (l.map aU) = l.map aU := CQ (fun g x => by simp only [aU, bW, ren, dJ, aQ, aZ, bS, aB, aN, aA, aG]) g l
theorem renE_S_api_Binding (g : Nat → Nat) (x : S_api_Binding) : bW g (aU x) = aU x := by simp only [aU, bW, ren, dJ, aQ, aZ, bS, aB, aN, aA, aG]
theorem Hl (n : S_api_Binding) : eu 8 (aU n) = true := rfl
theorem OQ : aF Tryz.prog 87 = true := by kernel_rfl
theorem ahw : aF Tryz.prog 142 = true := by kernel_rfl
theorem abj : aF Tryz.prog 162 = true := by kernel_rfl
theorem aaU : aF Tryz.prog 166 = true := by kernel_rfl
theorem aoP : aF Tryz.prog 168 = true := by kernel_rfl
attribute [simp] dB renE_S_api_Binding
end Abs
end Go.Proofs.YtiiaccpcoclklaaGreat
namespace Go.Proofs.YtiiaccpcoclklaaGreat
namespace Abs
open Go Go.Proofs
set_option maxRecDepth 100000
set_option maxHeartbeats 40000000
theorem DU (n : Nat) (p0 : List S_api_Binding) (p1 : Str) (r : Tm × Bool) (h : oJ n p0 p1 = some r) : ak Tryz.prog 166 [.slice (List.map aU p0) .shared, .str p1] [] (.bq [bg r.1, .bool r.2]) [] := by
 unfold oJ at h
 refine ah true Tryz.func166 rfl (nt Tryz.ntmps166 rfl) fun Q hQ t ht => ?_
 conv at ht => whnf
 subst ht
 refine .q fun K1 k1 => rg 1 ?_
 refine k1 _ _ ?_
 refine .q fun K2 k2 => .q fun K3 k3 => rg 0 ?_
 refine k3 _ _ ?_
 refine .block ?_
 obtain ⟨o1, ho1, h⟩ := ob h
 have hR1 : ∀ s2 : Unit, o1 = .nx s2 → ∀ t9 h9, Le 0 t9 h9 (u4 (.ptr 0 0 :: (u16 (u4 (.unk :: []))))) [.box [.i 0, .str ([] : Str), .i 0, .i 0, .str ([] : Str), .slice (List.map aK ([] : List Ty)) .nils, .slice (List.map aS ([] : List Tm)) .nils]] → K2 t9 h9 := by
  intro s2 ho
  subst ho
  dsimp only [LR.el] at h
  intro t9 h9 hw
  refine k2 _ _ (AW.le hw ?_)
  refine .q fun K4 k4 => rg 0 ?_
  refine k4 _ _ ?_
  refine .ret ?_
  have e9 := sj h
  subst e9
  refine hQ _ _ _ (aj aD (fun g => by simp) ?_)
  conv => whnf
  try rfl
 refine .loopS (uR n p0 p1) (fun (s1 : Int) => (.slice (List.map aU p0) .shared :: (.str p1 :: (u2 (.ptr 0 0 :: (.unk :: (.i s1 :: (u16 (u2 (.unk :: [])))))))))) (fun (s1 : Int) => [.box [.i 0, .str ([] : Str), .i 0, .i 0, .str ([] : Str), .slice (List.map aK ([] : List Ty)) .nils, .slice (List.map aS ([] : List Tm)) .nils]]) ho1 (fun _ => rfl) (li (.s (.s (.u2 (.s (.u (.s (.u16 (.u2 (.u .n)))))))))) ?_
 intro n1 s1 hs1 KL1 hKL1
 unfold uR at hs1
 refine .q fun K5 k5 => .q fun K6 k6 => rg 0 ?_
 refine aW (l := p0) (f := aU) ?_
 refine k6 _ _ ?_
 refine .aC rfl hs1 (fun hc1 hs1 => ?_) (fun hc1 hs1 => ?_)
 ·refine .skip ?_
  refine k5 _ _ ?_
  refine .q fun K7 k7 => ?_
  refine .block ?_
  refine .q fun K8 k8 => rg 0 ?_
  obtain ⟨x1, hx1, hs1⟩ := ob hs1
  refine aJ (l := p0) (f := aU) (cs := [.str ((x1).name), .i (((x1).term).op), .str (((x1).term).name), .i (((x1).term).n), .i ((((x1).term).ty).kind), .str ((((x1).term).ty).name), .slice (List.map aK ((((x1).term).ty).kids)) .shared, bn (((x1).term).kids)]) hx1 (rfl) rfl ?_
  refine k8 _ _ ?_
  refine .aC rfl hs1 (fun hc2 hs1 => ?_) (fun hc2 hs1 => ?_)
  ·refine .q fun K9 k9 => rg 0 ?_
   obtain ⟨x2, hx2, hs1⟩ := ob hs1
   refine aJ (l := p0) (f := aU) (cs := [.str ((x2).name), .i (((x2).term).op), .str (((x2).term).name), .i (((x2).term).n), .i ((((x2).term).ty).kind), .str ((((x2).term).ty).name), .slice (List.map aK ((((x2).term).ty).kids)) .shared, bn (((x2).term).kids)]) hx2 (rfl) rfl ?_
   refine k9 _ _ ?_
   refine .ret ?_
   have e9 := sj hs1
   subst e9
   dsimp only [LR.el] at h
   have e9 := sj h
   subst e9
   refine hQ _ _ _ (aj aD (fun g => by simp) ?_)
   conv => whnf
   try rfl
  refine .skip ?_
  refine k7 _ _ ?_
  refine .know 6 0 fun hv1 => ?_
  refine .know 0 0 fun hv2 => ?_
  refine rg 0 ?_
  refine ⟨(s1 + 1), by have := dn hv1; have := eP hv2; have h8 := of_decide_eq_true hc1; exact bG (by omega) (by omega), ?_⟩
  exact hKL1 _ _ _ hs1 (li (.s (.s (.u2 (.s (.u (.s (.u16 (.u2 (.u .n))))))))))
 refine .exit ?_
 exact hR1 _ (sj hs1).symm _ _ (li (.u4 (.s (.u16 (.u4 (.u .n))))))
theorem w2x0 {p q : Prop} (f : p → q) (h : p := by exact wk [some 0, some 1] (.e dB (.c rfl (.u4 (.u (.cons (.bF (aZ _ _) rfl) (.cons (.bF (dB _ _) rfl) (.c rfl (.u32 (.u4 (.u2 (.u (.c rfl (.u8 .nil))))))))))))) (.t rfl (.t rfl .nil)) rfl) : q := f h
theorem YZ (n : Nat) (p0 : List S_api_Binding) (p1 : Str) (p2 : Tm) (r : List S_api_Binding) (h : zw n p0 p1 p2 = some r) : ak Tryz.prog 168 [.slice (List.map aU p0) .shared, .str p1, bg p2] [] (.slice (List.map aU r) (.tip 0 8)) [.tip (List.length r * 8)] := by
 unfold zw at h
 refine ah false Tryz.func168 rfl (nt Tryz.ntmps168 rfl) fun Q hQ t ht => ?_
 conv at ht => whnf
 subst ht
 refine .q fun K1 k1 => rg 1 ?_
 refine k1 _ _ ?_
 refine .q fun K2 k2 => rg 1 ?_
 obtain ⟨x1, hx1, h⟩ := ob h
 refine bM [] [1] [bg p2, bQ ([] : List Str)] [bg p2, bQ ([] : List Str)] (Gy _ _ _ _ hx1) KU rfl .nil (by simp; try decide) (.cons (.same _) (.cons (.share _ _) .nil)) (rn := .slice (List.map encS x1) (.tip 1 1)) (by simp; try decide) (Hn := [.tip (List.length x1 * 1)]) ((bI (rfl) rfl)) ?_
 refine k2 _ _ ?_
 refine .q fun K3 k3 => rg 0 ?_
 refine k3 _ _ ?_
 refine .q fun K4 k4 => .q fun K5 k5 => rg 0 ?_
 refine k5 _ _ ?_
 refine .block ?_
 obtain ⟨o1, ho1, h⟩ := ob h
 have hR1 : ∀ s2 : List S_api_Binding, o1 = .nx s2 → ∀ t9 h9, Le 0 t9 h9 (u8 (.slice (List.map aU s2) (.tip 0 8) :: (u32 (u16 (.unk :: []))))) [.tip (List.length s2 * 8)] → K4 t9 h9 := by
  intro s2 ho
  subst ho
  dsimp only [LR.el] at h
  intro t9 h9 hw
  refine k4 _ _ (AW.le hw ?_)
  refine .q fun K6 k6 => rg 0 ?_
  refine k6 _ _ ?_
  refine .ret ?_
  have e9 := sj h
  subst e9
  refine hQ _ _ _ (dI (u4 (u2 (.slice (List.map aU s2) (.tip 0 8) :: (u32 (u16 (u2 (.unk :: []))))))) [.tip (List.length s2 * 8)] (wk [some 0] (.u4 (.u2 (.cons (.bF (dB _ _) rfl) (.u32 (.u16 (.u2 (.u .nil))))))) (.t rfl .nil) rfl) (bP aD [0] rfl (.cons (rfl) .nil) ?_))
  conv => whnf
  first | rfl | (simp; done) | (simp; rfl) | (simp; constructor <;> rfl)
 refine .loopS (vg n p0 p1 x1) (fun (s1 : (List S_api_Binding) × Int) => (.slice (List.map aU p0) .shared :: (.str p1 :: (u4 (.unk :: (.slice (List.map encS x1) (.tip 0 1) :: (.slice (List.map aU s1.1) (.tip 1 8) :: (.i s1.2 :: (u32 (u16 [])))))))))) (fun (s1 : (List S_api_Binding) × Int) => [.tip (List.length x1 * 1), .tip (List.length s1.1 * 8)]) ho1 (fun _ => rfl) (wk [some 1, none] (.e dB (.c rfl (.u4 (.u (.cons (.bF (aZ _ _) rfl) (.cons (.nils _ _) (.c rfl (.u32 (.u16 .nil))))))))) (.t rfl (.w rfl .nil)) rfl) ?_
 intro n1 s1 hs1 KL1 hKL1
 unfold vg at hs1
 refine .q fun K7 k7 => .q fun K8 k8 => rg 0 ?_
 refine aW (l := p0) (f := aU) ?_
 refine k8 _ _ ?_
 refine .aC rfl hs1 (fun hc1 hs1 => ?_) (fun hc1 hs1 => ?_)
 ·refine .skip ?_
  refine k7 _ _ ?_
  refine .q fun K9 k9 => ?_
  obtain ⟨s3, hj1, hs1⟩ := ob hs1
  have hR2 : ∀ t9 h9, Le 0 t9 h9 (.slice (List.map aU p0) .shared :: (.str p1 :: (u4 (.unk :: (.slice (List.map encS x1) (.tip 0 1) :: (.slice (List.map aU s3) (.tip 1 8) :: (.i s1.2 :: (u32 (u16 []))))))))) [.tip (List.length x1 * 1), .tip (List.length s3 * 8)] → K9 t9 h9 := by
   intro t9 h9 hw
   refine k9 _ _ (AW.le hw ?_)
   clear hw
   refine .know 9 0 fun hv1 => ?_
   refine .know 0 0 fun hv2 => ?_
   refine rg 0 ?_
   refine ⟨(s1.2 + 1), by have := dn hv1; have := eP hv2; have h8 := of_decide_eq_true hc1; exact bG (by omega) (by omega), ?_⟩
   exact hKL1 _ _ _ hs1 (li (.s (.s (.u4 (.u (.s (.s (.s (.u16 (.u16 (.u16 .n)))))))))))
  refine .block ?_
  refine .q fun K10 k10 => .q fun K11 k11 => rg 1 ?_
  obtain ⟨x2, hx2, hj1⟩ := ob hj1
  refine aJ (l := p0) (f := aU) (cs := [.str ((x2).name), .i (((x2).term).op), .str (((x2).term).name), .i (((x2).term).n), .i ((((x2).term).ty).kind), .str ((((x2).term).ty).name), .slice (List.map aK ((((x2).term).ty).kids)) .shared, bn (((x2).term).kids)]) hx2 (rfl) rfl ?_
  obtain ⟨x3, hx3, hj1⟩ := ob hj1
  refine cp (DU _ _ _ _ hx3) aaU (.cons (.share _ _) (.cons (.same _) .nil)) ?_
  refine k11 _ _ ?_
  refine .q fun K12 k12 => ?_
  obtain ⟨s4, hj2, hj1⟩ := ob hj1
  have hR3 : ∀ t9 h9, Le 0 t9 h9 (.slice (List.map aU p0) .shared :: (.str p1 :: (u4 (.unk :: (.slice (List.map encS x1) (.tip 0 1) :: (.slice (List.map aU s1.1) (.tip 1 8) :: (.i s1.2 :: (u32 (u4 (u2 (.unk :: (.bool s4 :: (u8 []))))))))))))) [.tip (List.length x1 * 1), .tip (List.length s1.1 * 8)] → K12 t9 h9 := by
   intro t9 h9 hw
   refine k12 _ _ (AW.le hw ?_)
   clear hw
   refine .aC rfl hj1 (fun hc2 hj1 => ?_) (fun hc2 hj1 => ?_)
   ·refine .exit ?_
    cases hj1
    exact hR2 _ _ (li (.s (.s (.u4 (.u (.s (.s (.s (.u16 (.u16 (.u16 .n)))))))))))
   refine .skip ?_
   refine k10 _ _ ?_
   refine rg 2 ?_
   obtain ⟨x4, hx4, hj1⟩ := ob hj1
   refine aJ (l := p0) (f := aU) (cs := [.str ((x4).name), .i (((x4).term).op), .str (((x4).term).name), .i (((x4).term).n), .i ((((x4).term).ty).kind), .str ((((x4).term).ty).name), .slice (List.map aK ((((x4).term).ty).kids)) .shared, bn (((x4).term).kids)]) hx4 (rfl) rfl ?_
   refine ⟨List.map aU ([x4]), rfl, ?_⟩
   obtain ⟨x5, hx5, hj1⟩ := ob hj1
   refine dW (l := s1.1) (ys := [x4]) (f := aU) hx5 Hl rfl rfl rfl ?_
   cases hj1
   exact hR2 _ _ (wk [some 0, some 3] (.e dB (.c rfl (.u4 (.u (.cons (.bF (aZ _ _) rfl) (.cons (.bF (dB _ _) rfl) (.c rfl (.u32 (.u16 .nil))))))))) (.t rfl (.t rfl .nil)) rfl)
  refine rg 0 ?_
  refine aH hj2 (fun hc3 hj2 => ?_) (fun hc3 hj2 => ?_)
  ·cases hj2
   exact w2x0 (hR3 _ _)
  obtain ⟨x6, hx6, hj2⟩ := ob hj2
  refine aJ (l := p0) (f := aU) (cs := [.str ((x6).name), .i (((x6).term).op), .str (((x6).term).name), .i (((x6).term).n), .i ((((x6).term).ty).kind), .str ((((x6).term).ty).name), .slice (List.map aK ((((x6).term).ty).kids)) .shared, bn (((x6).term).kids)]) hx6 (rfl) rfl ?_
  refine aH hj2 (fun hc4 hj2 => ?_) (fun hc4 hj2 => ?_)
  ·cases hj2
   exact w2x0 (hR3 _ _)
  obtain ⟨x7, hx7, hj2⟩ := ob hj2
  refine aJ (l := p0) (f := aU) (cs := [.str ((x7).name), .i (((x7).term).op), .str (((x7).term).name), .i (((x7).term).n), .i ((((x7).term).ty).kind), .str ((((x7).term).ty).name), .slice (List.map aK ((((x7).term).ty).kids)) .shared, bn (((x7).term).kids)]) hx7 (rfl) rfl ?_
  obtain ⟨x8, hx8, hj2⟩ := ob hj2
  refine au (uf _ _ _ _ hx8) zW (.cons (.same _) (.cons (.share _ _) .nil)) (fun g => by simp) (fun g => rfl) ?_
  cases hj2
  exact w2x0 (hR3 _ _)
 refine .exit ?_
 exact hR1 _ (sj hs1).symm _ _ (wk [some 1] (.u8 (.cons (.bF (dB _ _) rfl) (.u32 (.u16 (.u .nil))))) (.t rfl .nil) rfl)
abbrev R1_Decimal_S (rec_R1_Decimal : Int → Option Str) : Prop := ∀ (p0 : Int) (r : Str), rec_R1_Decimal p0 = some r → ak Tryz.prog 162 [.i p0] [] (.str r) []
theorem OX (n : Nat) (rec_R1_Decimal : Int → Option Str) (hrec_R1_Decimal : R1_Decimal_S rec_R1_Decimal) (p0 : Int) (r : Str) (h : vB n rec_R1_Decimal p0 = some r) : ak Tryz.prog 162 [.i p0] [] (.str r) [] := by
 unfold vB at h
 refine ah true Tryz.func162 rfl (nt Tryz.ntmps162 rfl) fun Q hQ t ht => ?_
 conv at ht => whnf
 subst ht
 refine .q fun K1 k1 => rg 0 ?_
 refine k1 _ _ ?_
 refine .q fun K2 k2 => .q fun K3 k3 => rg 0 ?_
 refine k3 _ _ ?_
 refine .aC rfl h (fun hc1 h => ?_) (fun hc1 h => ?_)
 ·refine .q fun K4 k4 => rg 0 ?_
  refine k4 _ _ ?_
  refine .ret ?_
  have e9 := sj h
  subst e9
  refine hQ _ _ _ (aj aD (fun g => rfl) ?_)
  conv => whnf
 refine .skip ?_
 refine k2 _ _ ?_
 refine .q fun K5 k5 => .q fun K6 k6 => rg 0 ?_
 refine k6 _ _ ?_
 refine .aC rfl h (fun hc2 h => ?_) (fun hc2 h => ?_)
 ·refine .q fun K7 k7 => rg 0 ?_
  obtain ⟨x1, hx1, h⟩ := ob h
  refine au (hrec_R1_Decimal _ _ hx1) abj (.cons (.same _) .nil) (fun g => rfl) (fun g => rfl) ?_
  obtain ⟨x2, hx2, h⟩ := ob h
  refine YN hx2 ?_
  refine k7 _ _ ?_
  refine .ret ?_
  have e9 := sj h
  subst e9
  refine hQ _ _ _ (aj aD (fun g => rfl) ?_)
  conv => whnf
 refine .skip ?_
 refine k5 _ _ ?_
 refine .q fun K8 k8 => .q fun K9 k9 => rg 0 ?_
 refine k9 _ _ ?_
 refine .aC rfl h (fun hc3 h => ?_) (fun hc3 h => ?_)
 ·refine .q fun K10 k10 => rg 1 ?_
  refine ⟨(IntKind.wrap .i64 (48 + p0)), rfl, ?_⟩
  refine ⟨List.map ER ([(IntKind.wrap .u8 (IntKind.wrap .i64 (48 + p0)))]), rfl, ?_⟩
  refine afb (l := [(IntKind.wrap .u8 (IntKind.wrap .i64 (48 + p0)))]) ?_
  refine k10 _ _ ?_
  refine .ret ?_
  have e9 := sj h
  subst e9
  refine hQ _ _ _ (aj aD (fun g => rfl) ?_)
  conv => whnf
 refine .skip ?_
 refine k8 _ _ ?_
 refine .q fun K11 k11 => rg 1 ?_
 obtain ⟨x3, hx3, h⟩ := ob h
 refine au (hrec_R1_Decimal _ _ hx3) abj (.cons (.same _) .nil) (fun g => rfl) (fun g => rfl) ?_
 refine ⟨(IntKind.wrap .i64 (48 + (Int.tmod p0 10))), rfl, ?_⟩
 refine ⟨List.map ER ([(IntKind.wrap .u8 (IntKind.wrap .i64 (48 + (Int.tmod p0 10))))]), rfl, ?_⟩
 refine afb (l := [(IntKind.wrap .u8 (IntKind.wrap .i64 (48 + (Int.tmod p0 10))))]) ?_
 obtain ⟨x4, hx4, h⟩ := ob h
 refine YN hx4 ?_
 refine ⟨rfl, ?_⟩
 refine k11 _ _ ?_
 refine .ret ?_
 have e9 := sj h
 subst e9
 refine hQ _ _ _ (aj aD (fun g => rfl) ?_)
 conv => whnf
theorem aaf (n : Nat) : R1_Decimal_S (ql n) := by
 induction n with
 | zero => exact (fun p0 r h => by unfold ql at h; cases h)
 | succ n ih =>
  exact (fun p0 r h => OX n _ ih p0 r (by unfold ql at h; exact h))
theorem adr (n : Nat) : R1_Decimal_S (ql n) := (aaf n)
theorem Uo (n : Nat) (p0 : Str) (p1 : List Str) (r : Str) (h : xR n p0 p1 = some r) : ak Tryz.prog 142 [.str p0, bQ p1] [] (.str r) [] := by
 unfold xR at h
 refine ah true Tryz.func142 rfl (nt Tryz.ntmps142 rfl) fun Q hQ t ht => ?_
 conv at ht => whnf
 subst ht
 refine .q fun K1 k1 => rg 0 ?_
 refine k1 _ _ ?_
 refine .q fun K2 k2 => ?_
 obtain ⟨s1, hj1, h⟩ := ob h
 have hR1 : ∀ t9 h9, Le 0 t9 h9 (.str s1 :: (bQ p1 :: (u32 (u16 (u8 (.unk :: [])))))) [] → K2 t9 h9 := by
  intro t9 h9 hw
  refine k2 _ _ (AW.le hw ?_)
  clear hw
  refine .q fun K3 k3 => .q fun K4 k4 => rg 0 ?_
  obtain ⟨x1, hx1, h⟩ := ob h
  refine au (uf _ _ _ _ hx1) zW (.cons (.same _) (.cons (.same _) .nil)) (fun g => by simp) (fun g => rfl) ?_
  refine k4 _ _ ?_
  refine .aC rfl h (fun hc1 h => ?_) (fun hc1 h => ?_)
  ·refine .q fun K5 k5 => rg 0 ?_
   refine k5 _ _ ?_
   refine .ret ?_
   have e9 := sj h
   subst e9
   refine hQ _ _ _ (aj aD (fun g => rfl) ?_)
   conv => whnf
  refine .skip ?_
  refine k3 _ _ ?_
  refine .q fun K6 k6 => ?_
  obtain ⟨s2, hj2, h⟩ := ob h
  have hR2 : ∀ t9 h9, Le 0 t9 h9 (.str s2 :: (bQ p1 :: (u32 (u16 (u8 (.unk :: [])))))) [] → K6 t9 h9 := by
   intro t9 h9 hw
   refine k6 _ _ (AW.le hw ?_)
   clear hw
   refine .q fun K7 k7 => ?_
   refine .block ?_
   obtain ⟨o1, ho1, h⟩ := ob h
   have hR3 : ∀ s4 : Str, o1 = .nx s4 → ∀ t9 h9, Le 0 t9 h9 (.str s4 :: (bQ p1 :: (u32 (u16 (u8 (.unk :: [])))))) [] → K7 t9 h9 := by
    intro s4 ho
    subst ho
    dsimp only [LR.el] at h
    intro t9 h9 hw
    refine k7 _ _ (AW.le hw ?_)
    refine .q fun K8 k8 => rg 0 ?_
    refine k8 _ _ ?_
    refine .block ?_
    obtain ⟨o2, ho2, h⟩ := ob h
    refine .loopS (sV n p1 s4) (fun (s5 : Int) => (.str s4 :: (bQ p1 :: (u2 (.unk :: (.i s5 :: (u32 (u16 (u4 (.unk :: [])))))))))) (fun (s5 : Int) => []) ho2 (fun _ => rfl) (li (.s (.s (.u2 (.u (.s (.u16 (.u16 (.u16 (.u4 (.u .n))))))))))) ?_
    intro n2 s5 hs2 KL2 hKL2
    unfold sV at hs2
    refine .q fun K9 k9 => ?_
    refine .block ?_
    refine .q fun K10 k10 => rg 0 ?_
    obtain ⟨x2, hx2, hs2⟩ := ob hs2
    refine au (adr _ _ _ hx2) abj (.cons (.same _) .nil) (fun g => rfl) (fun g => rfl) ?_
    refine k10 _ _ ?_
    refine .q fun K11 k11 => rg 0 ?_
    refine k11 _ _ ?_
    refine .q fun K12 k12 => ?_
    obtain ⟨s6, hj3, hs2⟩ := ob hs2
    have hR5 : ∀ t9 h9, Le 0 t9 h9 (.str s4 :: (bQ p1 :: (u2 (.unk :: (.i s5 :: (.str x2 :: (.str s6 :: (u32 (u16 (u2 (.unk :: []))))))))))) [] → K12 t9 h9 := by
     intro t9 h9 hw
     refine k12 _ _ (AW.le hw ?_)
     clear hw
     refine .q fun K13 k13 => rg 0 ?_
     obtain ⟨x3, hx3, hs2⟩ := ob hs2
     refine YN hx3 ?_
     obtain ⟨x4, hx4, hs2⟩ := ob hs2
     refine au (uf _ _ _ _ hx4) zW (.cons (.same _) (.cons (.same _) .nil)) (fun g => by simp) (fun g => rfl) ?_
     refine k13 _ _ ?_
     refine .aC rfl hs2 (fun hc2 hs2 => ?_) (fun hc2 hs2 => ?_)
     ·refine .q fun K14 k14 => rg 0 ?_
      obtain ⟨x5, hx5, hs2⟩ := ob hs2
      refine YN hx5 ?_
      refine k14 _ _ ?_
      refine .ret ?_
      have e9 := sj hs2
      subst e9
      dsimp only [LR.el] at h
      have e9 := sj h
      subst e9
      refine hQ _ _ _ (aj aD (fun g => rfl) ?_)
      conv => whnf
     refine .skip ?_
     refine k9 _ _ ?_
     refine rg 0 ?_
     refine ⟨(IntKind.wrap .i64 (s5 + 1)), rfl, ?_⟩
     exact hKL2 _ _ _ hs2 (li (.s (.s (.u2 (.u (.s (.u16 (.u16 (.u16 (.u4 (.u .n)))))))))))
    refine .q fun K15 k15 => rg 0 ?_
    refine ⟨(IntKind.wrap .i64 ((s4.length : Int) + (x2.length : Int))), rfl, ?_⟩
    refine k15 _ _ ?_
    refine .aC rfl hj3 (fun hc3 hj3 => ?_) (fun hc3 hj3 => ?_)
    ·refine rg 0 ?_
     refine ⟨(IntKind.wrap .i64 (16 - (x2.length : Int))), rfl, ?_⟩
     obtain ⟨x6, hx6, hj3⟩ := ob hj3
     refine RJ hx6 (.none _) (.int _ _ _) ?_
     cases hj3
     exact hR5 _ _ (li (.s (.s (.u2 (.u (.s (.s (.s (.u16 (.u16 (.u16 (.u2 (.u .n)))))))))))))
    refine .skip ?_
    cases hj3
    exact hR5 _ _ (li (.s (.s (.u2 (.u (.s (.s (.s (.u16 (.u16 (.u16 (.u2 (.u .n)))))))))))))
   refine .loopS (y9 n) (fun (s3 : Str) => (.str s3 :: (bQ p1 :: (u32 (u16 (u8 (.unk :: []))))))) (fun (s3 : Str) => []) ho1 (fun _ => rfl) (li (.s (.s (.u16 (.u16 (.u16 (.u8 (.u .n)))))))) ?_
   intro n1 s3 hs1 KL1 hKL1
   unfold y9 at hs1
   refine .q fun K16 k16 => .q fun K17 k17 => ?_
   refine .know 0 0 fun hv1 => ?_
   refine rg 0 ?_
   refine ⟨((s3.length : Int) - 1), by have := vfs hv1; exact bG (by omega) (by omega), ?_⟩
   obtain ⟨x7, hx7, hs1⟩ := ob hs1
   refine CO hx7 ?_
   obtain ⟨x8, hx8, hs1⟩ := ob hs1
   refine au (Us _ _ _ hx8) aiB (.cons (.same _) .nil) (fun g => rfl) (fun g => rfl) ?_
   refine k17 _ _ ?_
   refine .aC rfl hs1 (fun hc4 hs1 => ?_) (fun hc4 hs1 => ?_)
   ·refine .skip ?_
    refine k16 _ _ ?_
    refine .block ?_
    refine .know 0 0 fun hv2 => ?_
    refine rg 0 ?_
    refine ⟨((s3.length : Int) - 1), by have := vfs hv2; exact bG (by omega) (by omega), ?_⟩
    obtain ⟨x9, hx9, hs1⟩ := ob hs1
    refine RJ hx9 (.none _) (.int _ _ _) ?_
    exact hKL1 _ _ _ hs1 (li (.s (.s (.u16 (.u16 (.u16 (.u8 (.u .n))))))))
   refine .exit ?_
   exact hR3 _ (sj hs1).symm _ _ (li (.s (.s (.u16 (.u16 (.u16 (.u8 (.u .n))))))))
  refine .q fun K18 k18 => rg 0 ?_
  obtain ⟨x10, hx10, hj2⟩ := ob hj2
  refine au (Pf _ _ _ hx10) ahU (.cons (.same _) .nil) (fun g => rfl) (fun g => rfl) ?_
  refine k18 _ _ ?_
  refine .aC rfl hj2 (fun hc5 hj2 => ?_) (fun hc5 hj2 => ?_)
  ·refine .know 0 0 fun hv3 => ?_
   refine rg 0 ?_
   refine ⟨((s1.length : Int) - 1), by have := vfs hv3; exact bG (by omega) (by omega), ?_⟩
   obtain ⟨x11, hx11, hj2⟩ := ob hj2
   refine RJ hx11 (.none _) (.int _ _ _) ?_
   cases hj2
   exact hR2 _ _ (li (.s (.s (.u16 (.u16 (.u16 (.u8 (.u .n))))))))
  refine .skip ?_
  cases hj2
  exact hR2 _ _ (li (.s (.s (.u16 (.u16 (.u16 (.u8 (.u .n))))))))
 refine .q fun K19 k19 => rg 0 ?_
 obtain ⟨x12, hx12, hj1⟩ := ob hj1
 refine au (EU _ _ _ hx12) Rt (.cons (.same _) .nil) (fun g => rfl) (fun g => rfl) ?_
 refine k19 _ _ ?_
 refine .aC rfl hj1 (fun hc6 hj1 => ?_) (fun hc6 hj1 => ?_)
 ·refine rg 0 ?_
  cases hj1
  exact hR1 _ _ (li (.s (.s (.u16 (.u16 (.u16 (.u8 (.u .n))))))))
 refine .skip ?_
 cases hj1
 exact hR1 _ _ (li (.s (.s (.u16 (.u16 (.u16 (.u8 (.u .n))))))))
end Abs
end Go.Proofs.YtiiaccpcoclklaaGreat
