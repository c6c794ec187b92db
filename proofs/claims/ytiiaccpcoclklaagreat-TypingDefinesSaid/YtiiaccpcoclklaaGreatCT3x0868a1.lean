/-
  Contracts of Go functions (printed). Conditions: none.
-/
import Derived.KernelRfl
import Derived.Test.YtiiaccpcoclklaaGreatCT2x1027f2
set_option linter.unusedSimpArgs false
set_option linter.unusedVariables false
namespace Go.Proofs.YtiiaccpcoclklaaGreat
namespace Abs
open Go Go.Proofs
set_option maxRecDepth 100000
set_option maxHeartbeats 40000000
theorem oW (n : Nat) (p0 : Ty) (r : Bool) (h : kJ n p0 = some r) : ak Tryz.prog 92 [aV p0] [] (.bool r) [] := by
 unfold kJ at h
 refine ah true Tryz.func92 rfl (nt Tryz.ntmps92 rfl) fun Q hQ t ht => ?_
 conv at ht => whnf
 subst ht
 refine .q fun K1 k1 => rg 1 ?_
 refine k1 _ _ ?_
 refine .q fun K2 k2 => rg 1 ?_
 refine k2 _ _ ?_
 refine .q fun K3 k3 => rg 0 ?_
 obtain ⟨x1, hx1, h⟩ := ob h
 refine bM [1] [] [.ptr 0 0, aV p0, .i 1, .bool false] [.ptr 1 0, aV p0, .i 1, .bool false] (Hf _ _ _ _ _ _ _ _ hx1) ahm rfl (.cons (rfl) .nil) (by simp; try decide) (.cons (.same _) (.cons (.same _) (.cons (.same _) (.cons (.same _) .nil)))) (rn := .bool x1.1) (rfl) (Hn := [.box [.i x1.2, .i 16, .i 6]]) ((bI (rfl) rfl)) ?_
 refine k3 _ _ ?_
 refine .ret ?_
 have e9 := sj h
 subst e9
 refine hQ _ _ _ (aj aD (fun g => rfl) ?_)
 conv => whnf
abbrev slices_IndexFunc_Type_1_S (rec_slices_IndexFunc_Type_1 : (List Ty) → Int → Option Int) : Prop := ∀ (p0 : List Ty) (p1 : Int) (r : Int), rec_slices_IndexFunc_Type_1 p0 p1 = some r → ak Tryz.prog 245 [aI p0, .func 179 [.ptr 0 0]] [.box [.i p1]] (.i r) [.box [.i p1]]
abbrev slices_ContainsFunc_Type_1_S (rec_slices_ContainsFunc_Type_1 : (List Ty) → Int → Option Bool) : Prop := ∀ (p0 : List Ty) (p1 : Int) (r : Bool), rec_slices_ContainsFunc_Type_1 p0 p1 = some r → ak Tryz.prog 178 [aI p0, .func 179 [.ptr 0 0]] [.box [.i p1]] (.bool r) [.box [.i p1]]
abbrev typing_contains_S (rec_typing_contains : Ty → Int → Option Bool) : Prop := ∀ (p0 : Ty) (p1 : Int) (r : Bool), rec_typing_contains p0 p1 = some r → ak Tryz.prog 96 [aV p0, .i p1] [] (.bool r) []
abbrev typing_contains_1_S (rec_typing_contains_1 : Ty → Int → Option Bool) : Prop := ∀ (p0 : Ty) (p1 : Int) (r : Bool), rec_typing_contains_1 p0 p1 = some r → ak Tryz.prog 179 [aV p0, .ptr 0 0] [.box [.i p1]] (.bool r) [.box [.i p1]]
theorem Df (n : Nat) (rec_slices_IndexFunc_Type_1 : (List Ty) → Int → Option Int) (rec_slices_ContainsFunc_Type_1 : (List Ty) → Int → Option Bool) (rec_typing_contains : Ty → Int → Option Bool) (rec_typing_contains_1 : Ty → Int → Option Bool) (hrec_slices_IndexFunc_Type_1 : slices_IndexFunc_Type_1_S rec_slices_IndexFunc_Type_1) (hrec_slices_ContainsFunc_Type_1 : slices_ContainsFunc_Type_1_S rec_slices_ContainsFunc_Type_1) (hrec_typing_contains : typing_contains_S rec_typing_contains) (hrec_typing_contains_1 : typing_contains_1_S rec_typing_contains_1) (p0 : List Ty) (p1 : Int) (r : Int) (h : jo n rec_slices_IndexFunc_Type_1 rec_slices_ContainsFunc_Type_1 rec_typing_contains rec_typing_contains_1 p0 p1 = some r) : ak Tryz.prog 245 [aI p0, .func 179 [.ptr 0 0]] [.box [.i p1]] (.i r) [.box [.i p1]] := by
 unfold jo at h
 refine ah true Tryz.func245 rfl (nt Tryz.ntmps245 rfl) fun Q hQ t ht => ?_
 conv at ht => whnf
 subst ht
 refine .q fun K1 k1 => rg 0 ?_
 refine k1 _ _ ?_
 refine .q fun K2 k2 => .q fun K3 k3 => rg 0 ?_
 refine aW (l := p0) (f := aK) ?_
 refine k3 _ _ ?_
 refine .block ?_
 obtain ⟨o1, ho1, h⟩ := ob h
 have hR1 : ∀ s2 : Unit, o1 = .nx s2 → ∀ t9 h9, Le 1 t9 h9 (u16 (u2 (.unk :: []))) [.box [.i p1]] → K2 t9 h9 := by
  intro s2 ho
  subst ho
  dsimp only [LR.el] at h
  intro t9 h9 hw
  refine k2 _ _ (AW.le hw ?_)
  refine .q fun K4 k4 => rg 0 ?_
  refine k4 _ _ ?_
  refine .ret ?_
  have e9 := sj h
  subst e9
  refine hQ _ _ _ (dI (u4 (.i (-1) :: (u8 (u4 (u2 []))))) [.box [.i p1]] (wk [some 0] (.u4 (.c rfl (.u8 (.u4 (.u2 .nil))))) (.b rfl (.c rfl .nil) .nil) rfl) (bP aD [0] rfl (.cons (rfl) .nil) ?_))
  conv => whnf
  first | rfl | (simp; done) | (simp; rfl) | (simp; constructor <;> rfl)
 refine .loopS (ku n rec_slices_IndexFunc_Type_1 rec_slices_ContainsFunc_Type_1 rec_typing_contains rec_typing_contains_1 p0 p1) (fun (s1 : Int) => (aI p0 :: (.func 179 [.ptr 0 0] :: (u4 (.unk :: (.i (p0.length : Int) :: (.i s1 :: (u8 (u2 []))))))))) (fun (s1 : Int) => [.box [.i p1]]) ho1 (fun _ => rfl) (li (.s (.s (.u4 (.u (.s (.s (.u8 (.u2 .n))))))))) ?_
 intro n1 s1 hs1 KL1 hKL1
 unfold ku at hs1
 refine .q fun K5 k5 => rg 0 ?_
 refine k5 _ _ ?_
 refine .q fun K6 k6 => ?_
 refine .aC rfl hs1 (fun hc1 hs1 => ?_) (fun hc1 hs1 => ?_)
 ·refine .skip ?_
  refine k6 _ _ ?_
  refine .q fun K7 k7 => ?_
  refine .block ?_
  refine .q fun K8 k8 => rg 0 ?_
  refine k8 _ _ ?_
  refine .q fun K9 k9 => rg 0 ?_
  obtain ⟨x1, hx1, hs1⟩ := ob hs1
  refine aJ (l := p0) (f := aK) (cs := [.i ((x1).kind), .str ((x1).name), aI ((x1).kids)]) hx1 (aR x1) rfl ?_
  obtain ⟨x2, hx2, hs1⟩ := ob hs1
  refine bM [0] [] [aV x1, .ptr 0 0] [aV x1, .ptr 0 0] (hrec_typing_contains_1 _ _ _ hx2) apH rfl (.cons (rfl) .nil) (by simp; try decide) (.cons (.same _) (.cons (.same _) .nil)) (rn := .bool x2) (rfl) (Hn := [.box [.i p1]]) ((bI (rfl) rfl)) ?_
  refine k9 _ _ ?_
  refine .aC rfl hs1 (fun hc2 hs1 => ?_) (fun hc2 hs1 => ?_)
  ·refine .q fun K10 k10 => rg 0 ?_
   refine k10 _ _ ?_
   refine .ret ?_
   have e9 := sj hs1
   subst e9
   dsimp only [LR.el] at h
   have e9 := sj h
   subst e9
   refine hQ _ _ _ (dI (u4 (.i s1 :: (u8 (u4 (u2 []))))) [.box [.i p1]] (wk [some 0] (.u4 (.c rfl (.u8 (.u4 (.u2 .nil))))) (.b rfl (.c rfl .nil) .nil) rfl) (bP aD [0] rfl (.cons (rfl) .nil) ?_))
   conv => whnf
   first | rfl | (simp; done) | (simp; rfl) | (simp; constructor <;> rfl)
  refine .skip ?_
  refine k7 _ _ ?_
  refine .know 5 0 fun hv1 => ?_
  refine .know 0 0 fun hv2 => ?_
  refine rg 0 ?_
  refine ⟨(s1 + 1), by have := dn hv1; have := eP hv2; have h8 := of_decide_eq_true hc1; exact bG (by omega) (by omega), ?_⟩
  exact hKL1 _ _ _ hs1 (li (.s (.s (.u4 (.u (.s (.s (.u8 (.u2 .n)))))))))
 refine .exit ?_
 exact hR1 _ (sj hs1).symm _ _ (li (.u16 (.u2 (.u .n))))
theorem AQ (n : Nat) (rec_slices_IndexFunc_Type_1 : (List Ty) → Int → Option Int) (rec_slices_ContainsFunc_Type_1 : (List Ty) → Int → Option Bool) (rec_typing_contains : Ty → Int → Option Bool) (rec_typing_contains_1 : Ty → Int → Option Bool) (hrec_slices_IndexFunc_Type_1 : slices_IndexFunc_Type_1_S rec_slices_IndexFunc_Type_1) (hrec_slices_ContainsFunc_Type_1 : slices_ContainsFunc_Type_1_S rec_slices_ContainsFunc_Type_1) (hrec_typing_contains : typing_contains_S rec_typing_contains) (hrec_typing_contains_1 : typing_contains_1_S rec_typing_contains_1) (p0 : List Ty) (p1 : Int) (r : Bool) (h : iM n rec_slices_IndexFunc_Type_1 rec_slices_ContainsFunc_Type_1 rec_typing_contains rec_typing_contains_1 p0 p1 = some r) : ak Tryz.prog 178 [aI p0, .func 179 [.ptr 0 0]] [.box [.i p1]] (.bool r) [.box [.i p1]] := by
 unfold iM at h
 refine ah true Tryz.func178 rfl (nt Tryz.ntmps178 rfl) fun Q hQ t ht => ?_
 conv at ht => whnf
 subst ht
 refine .q fun K1 k1 => rg 0 ?_
 refine k1 _ _ ?_
 refine .q fun K2 k2 => rg 0 ?_
 obtain ⟨x1, hx1, h⟩ := ob h
 refine bM [0] [] [aI p0, .func 179 [.ptr 0 0]] [aI p0, .func 179 [.ptr 0 0]] (hrec_slices_IndexFunc_Type_1 _ _ _ hx1) Rm rfl (.cons (rfl) .nil) (by simp; try decide) (.cons (.same _) (.cons (.same _) .nil)) (rn := .i x1) (rfl) (Hn := [.box [.i p1]]) ((bI (rfl) rfl)) ?_
 refine k2 _ _ ?_
 refine .ret ?_
 have e9 := sj h
 subst e9
 refine hQ _ _ _ (dI (u4 (.bool (decide (0 ≤ x1)) :: (u4 []))) [.box [.i p1]] (wk [some 0] (.u4 (.c rfl (.u4 .nil))) (.b rfl (.c rfl .nil) .nil) rfl) (bP aD [0] rfl (.cons (rfl) .nil) ?_))
 conv => whnf
 first | rfl | (simp; done) | (simp; rfl) | (simp; constructor <;> rfl)
theorem IL (n : Nat) (rec_slices_IndexFunc_Type_1 : (List Ty) → Int → Option Int) (rec_slices_ContainsFunc_Type_1 : (List Ty) → Int → Option Bool) (rec_typing_contains : Ty → Int → Option Bool) (rec_typing_contains_1 : Ty → Int → Option Bool) (hrec_slices_IndexFunc_Type_1 : slices_IndexFunc_Type_1_S rec_slices_IndexFunc_Type_1) (hrec_slices_ContainsFunc_Type_1 : slices_ContainsFunc_Type_1_S rec_slices_ContainsFunc_Type_1) (hrec_typing_contains : typing_contains_S rec_typing_contains) (hrec_typing_contains_1 : typing_contains_1_S rec_typing_contains_1) (p0 : Ty) (p1 : Int) (r : Bool) (h : oO n rec_slices_IndexFunc_Type_1 rec_slices_ContainsFunc_Type_1 rec_typing_contains rec_typing_contains_1 p0 p1 = some r) : ak Tryz.prog 96 [aV p0, .i p1] [] (.bool r) [] := by
 unfold oO at h
 refine ah true Tryz.func96 rfl (nt Tryz.ntmps96 rfl) fun Q hQ t ht => ?_
 conv at ht => whnf
 subst ht
 refine .q fun K1 k1 => rg 2 ?_
 refine k1 _ _ ?_
 refine .q fun K2 k2 => ?_
 obtain ⟨s1, hj1, h⟩ := ob h
 have hR1 : ∀ t9 h9, Le 0 t9 h9 (u4 (.bool s1 :: (u8 (u2 [])))) [] → K2 t9 h9 := by
  intro t9 h9 hw
  refine k2 _ _ (AW.le hw ?_)
  clear hw
  refine .ret ?_
  have e9 := sj h
  subst e9
  refine hQ _ _ _ (aj aD (fun g => rfl) ?_)
  conv => whnf
 refine rg 0 ?_
 refine aH hj1 (fun hc1 hj1 => ?_) (fun hc1 hj1 => ?_)
 ·cases hj1
  exact hR1 _ _ (wk [] (.u4 (.c rfl (.u8 (.u2 .nil)))) .nil rfl)
 obtain ⟨x1, hx1, hj1⟩ := ob hj1
 refine bM [1] [] [aI p0.kids, .func 179 [.ptr 0 0]] [aI p0.kids, .func 179 [.ptr 1 0]] (hrec_slices_ContainsFunc_Type_1 _ _ _ hx1) Rv rfl (.cons (rfl) .nil) (by simp; try decide) (.cons (.same _) (.cons (.same _) .nil)) (rn := .bool x1) (rfl) (Hn := [.box [.i p1]]) ((bI (rfl) rfl)) ?_
 cases hj1
 exact hR1 _ _ (wk [] (.u4 (.c rfl (.u8 (.u2 .nil)))) .nil rfl)
theorem Gv (n : Nat) (rec_slices_IndexFunc_Type_1 : (List Ty) → Int → Option Int) (rec_slices_ContainsFunc_Type_1 : (List Ty) → Int → Option Bool) (rec_typing_contains : Ty → Int → Option Bool) (rec_typing_contains_1 : Ty → Int → Option Bool) (hrec_slices_IndexFunc_Type_1 : slices_IndexFunc_Type_1_S rec_slices_IndexFunc_Type_1) (hrec_slices_ContainsFunc_Type_1 : slices_ContainsFunc_Type_1_S rec_slices_ContainsFunc_Type_1) (hrec_typing_contains : typing_contains_S rec_typing_contains) (hrec_typing_contains_1 : typing_contains_1_S rec_typing_contains_1) (p0 : Ty) (p1 : Int) (r : Bool) (h : mY n rec_slices_IndexFunc_Type_1 rec_slices_ContainsFunc_Type_1 rec_typing_contains rec_typing_contains_1 p0 p1 = some r) : ak Tryz.prog 179 [aV p0, .ptr 0 0] [.box [.i p1]] (.bool r) [.box [.i p1]] := by
 unfold mY at h
 refine ah true Tryz.func179 rfl (nt Tryz.ntmps179 rfl) fun Q hQ t ht => ?_
 conv at ht => whnf
 subst ht
 refine .q fun K1 k1 => rg 1 ?_
 refine k1 _ _ ?_
 refine .q fun K2 k2 => rg 0 ?_
 obtain ⟨x1, hx1, h⟩ := ob h
 refine au (hrec_typing_contains _ _ _ hx1) afL (.cons (.same _) (.cons (.same _) .nil)) (fun g => by simp) (fun g => rfl) ?_
 refine k2 _ _ ?_
 refine .ret ?_
 have e9 := sj h
 subst e9
 refine hQ _ _ _ (dI (u2 (.unk :: (.bool x1 :: (u2 (.unk :: []))))) [.box [.i p1]] (wk [some 0] (.u2 (.u (.c rfl (.u2 (.u .nil))))) (.b rfl (.c rfl .nil) .nil) rfl) (bP aD [0] rfl (.cons (rfl) .nil) ?_))
 conv => whnf
 first | rfl | (simp; done) | (simp; rfl) | (simp; constructor <;> rfl)
theorem mD (n : Nat) : slices_IndexFunc_Type_1_S (gX n) ∧ slices_ContainsFunc_Type_1_S (eZ n) ∧ typing_contains_S (iU n) ∧ typing_contains_1_S (iK n) := by
 induction n with
 | zero => exact ⟨(fun p0 p1 r h => by unfold gX at h; cases h), (fun p0 p1 r h => by unfold eZ at h; cases h), (fun p0 p1 r h => by unfold iU at h; cases h), (fun p0 p1 r h => by unfold iK at h; cases h)⟩
 | succ n ih =>
  exact ⟨(fun p0 p1 r h => Df n _ _ _ _ ih.1 ih.2.1 ih.2.2.1 ih.2.2.2 p0 p1 r (by unfold gX at h; exact h)), (fun p0 p1 r h => AQ n _ _ _ _ ih.1 ih.2.1 ih.2.2.1 ih.2.2.2 p0 p1 r (by unfold eZ at h; exact h)), (fun p0 p1 r h => IL n _ _ _ _ ih.1 ih.2.1 ih.2.2.1 ih.2.2.2 p0 p1 r (by unfold iU at h; exact h)), (fun p0 p1 r h => Gv n _ _ _ _ ih.1 ih.2.1 ih.2.2.1 ih.2.2.2 p0 p1 r (by unfold iK at h; exact h))⟩
theorem E5 (n : Nat) : typing_contains_S (iU n) := (mD n).2.2.1
theorem xX (n : Nat) (p0 : Ty) (r : Bool) (h : iJ n p0 = some r) : ak Tryz.prog 95 [aV p0] [] (.bool r) [] := by
 unfold iJ at h
 refine ah true Tryz.func95 rfl (nt Tryz.ntmps95 rfl) fun Q hQ t ht => ?_
 conv at ht => whnf
 subst ht
 refine .q fun K1 k1 => rg 1 ?_
 refine k1 _ _ ?_
 refine .q fun K2 k2 => ?_
 obtain ⟨s1, hj1, h⟩ := ob h
 have hR1 : ∀ t9 h9, Le 0 t9 h9 (u2 (.bool s1 :: (u4 (u2 (.unk :: []))))) [] → K2 t9 h9 := by
  intro t9 h9 hw
  refine k2 _ _ (AW.le hw ?_)
  clear hw
  refine .ret ?_
  have e9 := sj h
  subst e9
  refine hQ _ _ _ (aj aD (fun g => rfl) ?_)
  conv => whnf
 refine rg 0 ?_
 obtain ⟨x1, hx1, hj1⟩ := ob hj1
 refine au (oW _ _ _ hx1) KV (.cons (.same _) .nil) (fun g => by simp) (fun g => rfl) ?_
 refine aH hj1 (fun hc1 hj1 => ?_) (fun hc1 hj1 => ?_)
 ·obtain ⟨x2, hx2, hj1⟩ := ob hj1
  refine au (E5 _ _ _ _ hx2) afL (.cons (.same _) (.cons (.same _) .nil)) (fun g => by simp) (fun g => rfl) ?_
  cases hj1
  exact hR1 _ _ (wk [] (.u2 (.c rfl (.u4 (.u2 (.u .nil))))) .nil rfl)
 cases hj1
 exact hR1 _ _ (wk [] (.u2 (.c rfl (.u4 (.u2 (.u .nil))))) .nil rfl)
abbrev typing_collect_S (rec_typing_collect : Ty → (List (Str × Bool)) → Option (List (Str × Bool))) : Prop := ∀ (p0 : Ty) (p1 : List (Str × Bool)) (r : List (Str × Bool)), rec_typing_collect p0 p1 = some r → ak Tryz.prog 103 [aV p0, .mapr 0] [.mp (eX p1)] (.bq []) [.mp (eX r)]
theorem Ke (n : Nat) (rec_typing_collect : Ty → (List (Str × Bool)) → Option (List (Str × Bool))) (hrec_typing_collect : typing_collect_S rec_typing_collect) (p0 : Ty) (p1 : List (Str × Bool)) (r : List (Str × Bool)) (h : pQ n rec_typing_collect p0 p1 = some r) : ak Tryz.prog 103 [aV p0, .mapr 0] [.mp (eX p1)] (.bq []) [.mp (eX r)] := by
 unfold pQ at h
 refine ah true Tryz.func103 rfl (nt Tryz.ntmps103 rfl) fun Q hQ t ht => ?_
 conv at ht => whnf
 subst ht
 refine .q fun K1 k1 => rg 1 ?_
 refine k1 _ _ ?_
 refine .q fun K2 k2 => ?_
 obtain ⟨s1, hj1, h⟩ := ob h
 have hR1 : ∀ t9 h9, Le 1 t9 h9 (.unk :: (.mapr 0 :: (.ptr 1 0 :: (u16 (u4 []))))) [.mp (eX s1), .box [.i p0.kind, .str p0.name, aI p0.kids]] → K2 t9 h9 := by
  intro t9 h9 hw
  refine k2 _ _ (AW.le hw ?_)
  clear hw
  refine .q fun K3 k3 => rg 0 ?_
  refine aW (l := p0.kids) (f := aK) ?_
  refine k3 _ _ ?_
  refine .block ?_
  obtain ⟨o1, ho1, h⟩ := ob h
  have hR2 : ∀ s3 : List (Str × Bool), o1 = .nx s3 → ∀ t9 h9, Le 1 t9 h9 (u16 (u4 (u2 (.unk :: [])))) [.mp (eX s3)] → Q .normal t9 h9 := by
   intro s3 ho
   subst ho
   dsimp only [LR.el] at h
   intro t9 h9 hw
   have e9 := sj h
   subst e9
   refine hQ _ _ _ (dI (u16 (u4 (u2 (.unk :: [])))) [.mp (eX s3)] (hw.trans (wk [some 0] (.u16 (.u4 (.u2 (.u .nil)))) (.old .mB .nil) rfl)) (bP aD [0] rfl (.cons (congrArg AObj.mp (dS (f := (fun (x : Bool) => .bool x)) (fun g x => rfl) _ _)) .nil) ?_))
   conv => whnf
   first | rfl | (simp; done) | (simp; rfl) | (simp; constructor <;> rfl)
  refine .loopS (o7 n rec_typing_collect p0) (fun (s2 : Int × (List (Str × Bool))) => (.unk :: (.mapr 0 :: (u8 (u2 (.unk :: (aI p0.kids :: (.i (p0.kids.length : Int) :: (.i s2.1 :: (u4 (u2 (.unk :: [])))))))))))) (fun (s2 : Int × (List (Str × Bool))) => [.mp (eX s2.2)]) ho1 (fun _ => rfl) (wk [some 0] (.u (.c rfl (.u8 (.u2 (.u (.e aB (.c rfl (.c rfl (.u4 (.u2 (.u .nil))))))))))) (.old .mB .nil) rfl) ?_
  intro n1 s2 hs1 KL1 hKL1
  unfold o7 at hs1
  refine .q fun K4 k4 => rg 0 ?_
  refine k4 _ _ ?_
  refine .q fun K5 k5 => ?_
  refine .aC rfl hs1 (fun hc1 hs1 => ?_) (fun hc1 hs1 => ?_)
  ·refine .skip ?_
   refine k5 _ _ ?_
   refine .q fun K6 k6 => ?_
   refine .block ?_
   refine .q fun K7 k7 => rg 1 ?_
   obtain ⟨x1, hx1, hs1⟩ := ob hs1
   refine aJ (l := p0.kids) (f := aK) (cs := [.i ((x1).kind), .str ((x1).name), aI ((x1).kids)]) hx1 (aR x1) rfl ?_
   refine k7 _ _ ?_
   refine rg 0 ?_
   obtain ⟨x2, hx2, hs1⟩ := ob hs1
   refine bM [0] [] [aV x1, .mapr 0] [aV x1, .mapr 0] (hrec_typing_collect _ _ _ hx2) aik rfl (.cons (congrArg AObj.mp (dS (f := (fun (x : Bool) => .bool x)) (fun g x => rfl) _ _)) .nil) (by simp; try decide) (.cons (.same _) (.cons (.same _) .nil)) (rn := .bq []) (rfl) (Hn := [.mp (eX x2)]) ((bI (congrArg AObj.mp (dS (f := (fun (x : Bool) => .bool x)) (fun g x => rfl) _ _)) rfl)) ?_
   refine k6 _ _ ?_
   refine .know 15 0 fun hv1 => ?_
   refine .know 13 0 fun hv2 => ?_
   refine rg 0 ?_
   refine ⟨(s2.1 + 1), by have := dn hv1; have := eP hv2; have h8 := of_decide_eq_true hc1; exact bG (by omega) (by omega), ?_⟩
   exact hKL1 _ _ _ hs1 (wk [some 0] (.u (.c rfl (.u8 (.u2 (.u (.e aB (.c rfl (.c rfl (.u4 (.u2 (.u .nil))))))))))) (.old .mB .nil) rfl)
  refine .exit ?_
  exact hR2 _ (sj hs1).symm _ _ (li (.u16 (.u4 (.u2 (.u .n)))))
 refine .q fun K8 k8 => rg 0 ?_
 refine k8 _ _ ?_
 refine .aC rfl hj1 (fun hc2 hj1 => ?_) (fun hc2 hj1 => ?_)
 ·refine rg 0 ?_
  obtain ⟨x3, hx3, hj1⟩ := ob hj1
  refine Lb (m := p1) (f := (fun (x : Bool) => .bool x)) hx3 rfl ?_
  cases hj1
  exact hR1 _ _ (li (.u (.s (.s (.u16 (.u4 .n))))))
 refine .skip ?_
 cases hj1
 exact hR1 _ _ (li (.u (.s (.s (.u16 (.u4 .n))))))
theorem Py (n : Nat) : typing_collect_S (kG n) := by
 induction n with
 | zero => exact (fun p0 p1 r h => by unfold kG at h; cases h)
 | succ n ih =>
  exact (fun p0 p1 r h => Ke n _ ih p0 p1 r (by unfold kG at h; exact h))
theorem TS (n : Nat) : typing_collect_S (kG n) := (Py n)
end Abs
end Go.Proofs.YtiiaccpcoclklaaGreat
