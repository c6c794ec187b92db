/-
  Contracts of Go functions (printed). Conditions: none.
-/
import Derived.KernelRfl
import Derived.Test.YtiiaccpcoclklaaGreatCAbs38x04b7ad
import Derived.Test.YtiiaccpcoclklaaGreatCDfxa6bced
import Derived.Test.YtiiaccpcoclklaaGreatCTDx83fdfc
import Derived.Test.YtiiaccpcoclklaaGreatCT2x1946b4
set_option linter.unusedSimpArgs false
set_option linter.unusedVariables false
namespace Go.Proofs.YtiiaccpcoclklaaGreat
namespace Abs
open Go Go.Proofs
set_option maxRecDepth 100000
set_option maxHeartbeats 40000000
theorem nO (n : Nat) (p0 : Ty) (r : Bool) (h : jH n p0 = some r) : aA Tryz.prog 92 [aU p0] [] (.bool r) [] := by
 unfold jH at h
 refine ah true Tryz.func92 rfl (nt Tryz.ntmps92 rfl) fun Q hQ t ht => ?_
 conv at ht => whnf
 subst ht
 refine .q fun K1 k1 => rg 1 ?_
 refine k1 _ _ ?_
 refine .q fun K2 k2 => rg 1 ?_
 refine k2 _ _ ?_
 refine .q fun K3 k3 => rg 0 ?_
 obtain ⟨x1, hx1, h⟩ := ob h
 refine bU [1] [] [.ptr 0 0, aU p0, .i 1, .bool false] [.ptr 1 0, aU p0, .i 1, .bool false] (EG _ _ _ _ _ _ _ _ hx1) adH rfl (.cons (rfl) .nil) (by simp; try decide) (.cons (.same _) (.cons (.same _) (.cons (.same _) (.cons (.same _) .nil)))) (rn := .bool x1.1) (rfl) (Hn := [.box [.i x1.2, .i 16, .i 6]]) ((bK (rfl) rfl)) ?_
 refine k3 _ _ ?_
 refine .ret ?_
 have e9 := sj h
 subst e9
 refine hQ _ _ _ (aj aC (fun g => rfl) ?_)
 conv => whnf
abbrev jR (rec_slices_IndexFunc_Type_1 : (List Ty) → Int → Option Int) : Prop := ∀ (p0 : List Ty) (p1 : Int) (r : Int), rec_slices_IndexFunc_Type_1 p0 p1 = some r → aA Tryz.prog 245 [aH p0, .func 179 [.ptr 0 0]] [.box [.i p1]] (.i r) [.box [.i p1]]
abbrev iR (rec_slices_ContainsFunc_Type_1 : (List Ty) → Int → Option Bool) : Prop := ∀ (p0 : List Ty) (p1 : Int) (r : Bool), rec_slices_ContainsFunc_Type_1 p0 p1 = some r → aA Tryz.prog 178 [aH p0, .func 179 [.ptr 0 0]] [.box [.i p1]] (.bool r) [.box [.i p1]]
abbrev nN (rec_typing_contains : Ty → Int → Option Bool) : Prop := ∀ (p0 : Ty) (p1 : Int) (r : Bool), rec_typing_contains p0 p1 = some r → aA Tryz.prog 96 [aU p0, .i p1] [] (.bool r) []
abbrev om (rec_typing_contains_1 : Ty → Int → Option Bool) : Prop := ∀ (p0 : Ty) (p1 : Int) (r : Bool), rec_typing_contains_1 p0 p1 = some r → aA Tryz.prog 179 [aU p0, .ptr 0 0] [.box [.i p1]] (.bool r) [.box [.i p1]]
theorem Au (n : Nat) (rec_slices_IndexFunc_Type_1 : (List Ty) → Int → Option Int) (rec_slices_ContainsFunc_Type_1 : (List Ty) → Int → Option Bool) (rec_typing_contains : Ty → Int → Option Bool) (rec_typing_contains_1 : Ty → Int → Option Bool) (hrec_slices_IndexFunc_Type_1 : jR rec_slices_IndexFunc_Type_1) (hrec_slices_ContainsFunc_Type_1 : iR rec_slices_ContainsFunc_Type_1) (hrec_typing_contains : nN rec_typing_contains) (hrec_typing_contains_1 : om rec_typing_contains_1) (p0 : List Ty) (p1 : Int) (r : Int) (h : iP n rec_slices_IndexFunc_Type_1 rec_slices_ContainsFunc_Type_1 rec_typing_contains rec_typing_contains_1 p0 p1 = some r) : aA Tryz.prog 245 [aH p0, .func 179 [.ptr 0 0]] [.box [.i p1]] (.i r) [.box [.i p1]] := by
 unfold iP at h
 refine ah true Tryz.func245 rfl (nt Tryz.ntmps245 rfl) fun Q hQ t ht => ?_
 conv at ht => whnf
 subst ht
 refine .q fun K1 k1 => rg 0 ?_
 refine k1 _ _ ?_
 refine .q fun K2 k2 => .q fun K3 k3 => rg 0 ?_
 refine bB (l := p0) (f := aF) ?_
 refine k3 _ _ ?_
 refine .block ?_
 obtain ⟨o1, ho1, h⟩ := ob h
 have hR1 : ∀ s2 : Unit, o1 = .nx s2 → ∀ t9 h9, Le 1 t9 h9 (u16 (u2 (.unk :: []))) [.box [.i p1]] → K2 t9 h9 := by
  intro s2 ho
  subst ho
  dsimp only [LR.el] at h
  intro t9 h9 hw
  refine k2 _ _ (AW.le hw ?_)
  refine .q fun K4 k4 => rg 0 ?_
  refine k4 _ _ ?_
  refine .ret ?_
  have e9 := sj h
  subst e9
  refine hQ _ _ _ (dz (u4 (.i (-1) :: (u8 (u4 (u2 []))))) [.box [.i p1]] (wk [some 0] (.u4 (.c rfl (.u8 (.u4 (.u2 .nil))))) (.b rfl (.c rfl .nil) .nil) rfl) (bG aC [0] rfl (.cons (rfl) .nil) ?_))
  conv => whnf
  first | rfl | (simp; done) | (simp; rfl) | (simp; constructor <;> rfl)
 refine .loopS (jo n rec_slices_IndexFunc_Type_1 rec_slices_ContainsFunc_Type_1 rec_typing_contains rec_typing_contains_1 p0 p1) (fun (s1 : Int) => (aH p0 :: (.func 179 [.ptr 0 0] :: (u4 (.unk :: (.i (p0.length : Int) :: (.i s1 :: (u8 (u2 []))))))))) (fun (s1 : Int) => [.box [.i p1]]) ho1 (fun _ => rfl) (li (.s (.s (.u4 (.u (.s (.s (.u8 (.u2 .n))))))))) ?_
 intro n1 s1 hs1 KL1 hKL1
 unfold jo at hs1
 refine .q fun K5 k5 => rg 0 ?_
 refine k5 _ _ ?_
 refine .q fun K6 k6 => ?_
 refine .aB rfl hs1 (fun hc1 hs1 => ?_) (fun hc1 hs1 => ?_)
 ·refine .skip ?_
  refine k6 _ _ ?_
  refine .q fun K7 k7 => ?_
  refine .block ?_
  refine .q fun K8 k8 => rg 0 ?_
  refine k8 _ _ ?_
  refine .q fun K9 k9 => rg 0 ?_
  obtain ⟨x1, hx1, hs1⟩ := ob hs1
  refine aI (l := p0) (f := aF) (cs := [.i ((x1).kind), .str ((x1).name), aH ((x1).kids)]) hx1 (aL x1) rfl ?_
  obtain ⟨x2, hx2, hs1⟩ := ob hs1
  refine bU [0] [] [aU x1, .ptr 0 0] [aU x1, .ptr 0 0] (hrec_typing_contains_1 _ _ _ hx2) ajK rfl (.cons (rfl) .nil) (by simp; try decide) (.cons (.same _) (.cons (.same _) .nil)) (rn := .bool x2) (rfl) (Hn := [.box [.i p1]]) ((bK (rfl) rfl)) ?_
  refine k9 _ _ ?_
  refine .aB rfl hs1 (fun hc2 hs1 => ?_) (fun hc2 hs1 => ?_)
  ·refine .q fun K10 k10 => rg 0 ?_
   refine k10 _ _ ?_
   refine .ret ?_
   have e9 := sj hs1
   subst e9
   dsimp only [LR.el] at h
   have e9 := sj h
   subst e9
   refine hQ _ _ _ (dz (u4 (.i s1 :: (u8 (u4 (u2 []))))) [.box [.i p1]] (wk [some 0] (.u4 (.c rfl (.u8 (.u4 (.u2 .nil))))) (.b rfl (.c rfl .nil) .nil) rfl) (bG aC [0] rfl (.cons (rfl) .nil) ?_))
   conv => whnf
   first | rfl | (simp; done) | (simp; rfl) | (simp; constructor <;> rfl)
  refine .skip ?_
  refine k7 _ _ ?_
  refine .know 5 0 fun hv1 => ?_
  refine .know 0 0 fun hv2 => ?_
  refine rg 0 ?_
  refine ⟨(s1 + 1), by have := dK hv1; have := fU hv2; have h8 := of_decide_eq_true hc1; exact bI (by omega) (by omega), ?_⟩
  exact hKL1 _ _ _ hs1 (li (.s (.s (.u4 (.u (.s (.s (.u8 (.u2 .n)))))))))
 refine .exit ?_
 exact hR1 _ (sj hs1).symm _ _ (li (.u16 (.u2 (.u .n))))
theorem yK (n : Nat) (rec_slices_IndexFunc_Type_1 : (List Ty) → Int → Option Int) (rec_slices_ContainsFunc_Type_1 : (List Ty) → Int → Option Bool) (rec_typing_contains : Ty → Int → Option Bool) (rec_typing_contains_1 : Ty → Int → Option Bool) (hrec_slices_IndexFunc_Type_1 : jR rec_slices_IndexFunc_Type_1) (hrec_slices_ContainsFunc_Type_1 : iR rec_slices_ContainsFunc_Type_1) (hrec_typing_contains : nN rec_typing_contains) (hrec_typing_contains_1 : om rec_typing_contains_1) (p0 : List Ty) (p1 : Int) (r : Bool) (h : gZ n rec_slices_IndexFunc_Type_1 rec_slices_ContainsFunc_Type_1 rec_typing_contains rec_typing_contains_1 p0 p1 = some r) : aA Tryz.prog 178 [aH p0, .func 179 [.ptr 0 0]] [.box [.i p1]] (.bool r) [.box [.i p1]] := by
 unfold gZ at h
 refine ah true Tryz.func178 rfl (nt Tryz.ntmps178 rfl) fun Q hQ t ht => ?_
 conv at ht => whnf
 subst ht
 refine .q fun K1 k1 => rg 0 ?_
 refine k1 _ _ ?_
 refine .q fun K2 k2 => rg 0 ?_
 obtain ⟨x1, hx1, h⟩ := ob h
 refine bU [0] [] [aH p0, .func 179 [.ptr 0 0]] [aH p0, .func 179 [.ptr 0 0]] (hrec_slices_IndexFunc_Type_1 _ _ _ hx1) O1 rfl (.cons (rfl) .nil) (by simp; try decide) (.cons (.same _) (.cons (.same _) .nil)) (rn := .i x1) (rfl) (Hn := [.box [.i p1]]) ((bK (rfl) rfl)) ?_
 refine k2 _ _ ?_
 refine .ret ?_
 have e9 := sj h
 subst e9
 refine hQ _ _ _ (dz (u4 (.bool (decide (0 ≤ x1)) :: (u4 []))) [.box [.i p1]] (wk [some 0] (.u4 (.c rfl (.u4 .nil))) (.b rfl (.c rfl .nil) .nil) rfl) (bG aC [0] rfl (.cons (rfl) .nil) ?_))
 conv => whnf
 first | rfl | (simp; done) | (simp; rfl) | (simp; constructor <;> rfl)
theorem FU (n : Nat) (rec_slices_IndexFunc_Type_1 : (List Ty) → Int → Option Int) (rec_slices_ContainsFunc_Type_1 : (List Ty) → Int → Option Bool) (rec_typing_contains : Ty → Int → Option Bool) (rec_typing_contains_1 : Ty → Int → Option Bool) (hrec_slices_IndexFunc_Type_1 : jR rec_slices_IndexFunc_Type_1) (hrec_slices_ContainsFunc_Type_1 : iR rec_slices_ContainsFunc_Type_1) (hrec_typing_contains : nN rec_typing_contains) (hrec_typing_contains_1 : om rec_typing_contains_1) (p0 : Ty) (p1 : Int) (r : Bool) (h : nH n rec_slices_IndexFunc_Type_1 rec_slices_ContainsFunc_Type_1 rec_typing_contains rec_typing_contains_1 p0 p1 = some r) : aA Tryz.prog 96 [aU p0, .i p1] [] (.bool r) [] := by
 unfold nH at h
 refine ah true Tryz.func96 rfl (nt Tryz.ntmps96 rfl) fun Q hQ t ht => ?_
 conv at ht => whnf
 subst ht
 refine .q fun K1 k1 => rg 2 ?_
 refine k1 _ _ ?_
 refine .q fun K2 k2 => ?_
 obtain ⟨s1, hj1, h⟩ := ob h
 have hR1 : ∀ t9 h9, Le 0 t9 h9 (u4 (.bool s1 :: (u8 (u2 [])))) [] → K2 t9 h9 := by
  intro t9 h9 hw
  refine k2 _ _ (AW.le hw ?_)
  clear hw
  refine .ret ?_
  have e9 := sj h
  subst e9
  refine hQ _ _ _ (aj aC (fun g => rfl) ?_)
  conv => whnf
 refine rg 0 ?_
 refine aG hj1 (fun hc1 hj1 => ?_) (fun hc1 hj1 => ?_)
 ·cases hj1
  exact hR1 _ _ (wk [] (.u4 (.c rfl (.u8 (.u2 .nil)))) .nil rfl)
 obtain ⟨x1, hx1, hj1⟩ := ob hj1
 refine bU [1] [] [aH p0.kids, .func 179 [.ptr 0 0]] [aH p0.kids, .func 179 [.ptr 1 0]] (hrec_slices_ContainsFunc_Type_1 _ _ _ hx1) O4 rfl (.cons (rfl) .nil) (by simp; try decide) (.cons (.same _) (.cons (.same _) .nil)) (rn := .bool x1) (rfl) (Hn := [.box [.i p1]]) ((bK (rfl) rfl)) ?_
 cases hj1
 exact hR1 _ _ (wk [] (.u4 (.c rfl (.u8 (.u2 .nil)))) .nil rfl)
theorem Ef (n : Nat) (rec_slices_IndexFunc_Type_1 : (List Ty) → Int → Option Int) (rec_slices_ContainsFunc_Type_1 : (List Ty) → Int → Option Bool) (rec_typing_contains : Ty → Int → Option Bool) (rec_typing_contains_1 : Ty → Int → Option Bool) (hrec_slices_IndexFunc_Type_1 : jR rec_slices_IndexFunc_Type_1) (hrec_slices_ContainsFunc_Type_1 : iR rec_slices_ContainsFunc_Type_1) (hrec_typing_contains : nN rec_typing_contains) (hrec_typing_contains_1 : om rec_typing_contains_1) (p0 : Ty) (p1 : Int) (r : Bool) (h : lS n rec_slices_IndexFunc_Type_1 rec_slices_ContainsFunc_Type_1 rec_typing_contains rec_typing_contains_1 p0 p1 = some r) : aA Tryz.prog 179 [aU p0, .ptr 0 0] [.box [.i p1]] (.bool r) [.box [.i p1]] := by
 unfold lS at h
 refine ah true Tryz.func179 rfl (nt Tryz.ntmps179 rfl) fun Q hQ t ht => ?_
 conv at ht => whnf
 subst ht
 refine .q fun K1 k1 => rg 1 ?_
 refine k1 _ _ ?_
 refine .q fun K2 k2 => rg 0 ?_
 obtain ⟨x1, hx1, h⟩ := ob h
 refine ak (hrec_typing_contains _ _ _ hx1) abZ (.cons (.same _) (.cons (.same _) .nil)) (fun g => by simp) (fun g => rfl) ?_
 refine k2 _ _ ?_
 refine .ret ?_
 have e9 := sj h
 subst e9
 refine hQ _ _ _ (dz (u2 (.unk :: (.bool x1 :: (u2 (.unk :: []))))) [.box [.i p1]] (wk [some 0] (.u2 (.u (.c rfl (.u2 (.u .nil))))) (.b rfl (.c rfl .nil) .nil) rfl) (bG aC [0] rfl (.cons (rfl) .nil) ?_))
 conv => whnf
 first | rfl | (simp; done) | (simp; rfl) | (simp; constructor <;> rfl)
theorem Dq (n : Nat) : jR (iq n) ∧ iR (eZ n) ∧ nN (iB n) ∧ om (iO n) := by
 induction n with
 | zero => exact ⟨(fun p0 p1 r h => by unfold iq at h; cases h), (fun p0 p1 r h => by unfold eZ at h; cases h), (fun p0 p1 r h => by unfold iB at h; cases h), (fun p0 p1 r h => by unfold iO at h; cases h)⟩
 | succ n ih =>
  exact ⟨(fun p0 p1 r h => Au n _ _ _ _ ih.1 ih.2.1 ih.2.2.1 ih.2.2.2 p0 p1 r (by unfold iq at h; exact h)), (fun p0 p1 r h => yK n _ _ _ _ ih.1 ih.2.1 ih.2.2.1 ih.2.2.2 p0 p1 r (by unfold eZ at h; exact h)), (fun p0 p1 r h => FU n _ _ _ _ ih.1 ih.2.1 ih.2.2.1 ih.2.2.2 p0 p1 r (by unfold iB at h; exact h)), (fun p0 p1 r h => Ef n _ _ _ _ ih.1 ih.2.1 ih.2.2.1 ih.2.2.2 p0 p1 r (by unfold iO at h; exact h))⟩
theorem CJ (n : Nat) : nN (iB n) := (Dq n).2.2.1
theorem Bt (n : Nat) (p0 : Ty) (r : Bool) (h : jI n p0 = some r) : aA Tryz.prog 95 [aU p0] [] (.bool r) [] := by
 unfold jI at h
 refine ah true Tryz.func95 rfl (nt Tryz.ntmps95 rfl) fun Q hQ t ht => ?_
 conv at ht => whnf
 subst ht
 refine .q fun K1 k1 => rg 1 ?_
 refine k1 _ _ ?_
 refine .q fun K2 k2 => ?_
 obtain ⟨s1, hj1, h⟩ := ob h
 have hR1 : ∀ t9 h9, Le 0 t9 h9 (u2 (.bool s1 :: (u4 (u2 (.unk :: []))))) [] → K2 t9 h9 := by
  intro t9 h9 hw
  refine k2 _ _ (AW.le hw ?_)
  clear hw
  refine .ret ?_
  have e9 := sj h
  subst e9
  refine hQ _ _ _ (aj aC (fun g => rfl) ?_)
  conv => whnf
 refine rg 0 ?_
 obtain ⟨x1, hx1, hj1⟩ := ob hj1
 refine ak (nO _ _ _ hx1) Jz (.cons (.same _) .nil) (fun g => by simp) (fun g => rfl) ?_
 refine aG hj1 (fun hc1 hj1 => ?_) (fun hc1 hj1 => ?_)
 ·obtain ⟨x2, hx2, hj1⟩ := ob hj1
  refine ak (CJ _ _ _ _ hx2) abZ (.cons (.same _) (.cons (.same _) .nil)) (fun g => by simp) (fun g => rfl) ?_
  cases hj1
  exact hR1 _ _ (wk [] (.u2 (.c rfl (.u4 (.u2 (.u .nil))))) .nil rfl)
 cases hj1
 exact hR1 _ _ (wk [] (.u2 (.c rfl (.u4 (.u2 (.u .nil))))) .nil rfl)
abbrev zR (rec_typing_collect : Ty → (List (Str × Bool)) → Option (List (Str × Bool))) : Prop := ∀ (p0 : Ty) (p1 : List (Str × Bool)) (r : List (Str × Bool)), rec_typing_collect p0 p1 = some r → aA Tryz.prog 103 [aU p0, .mapr 0] [.mp (fI p1)] (.aZ []) [.mp (fI r)]
theorem GV (n : Nat) (rec_typing_collect : Ty → (List (Str × Bool)) → Option (List (Str × Bool))) (hrec_typing_collect : zR rec_typing_collect) (p0 : Ty) (p1 : List (Str × Bool)) (r : List (Str × Bool)) (h : oh n rec_typing_collect p0 p1 = some r) : aA Tryz.prog 103 [aU p0, .mapr 0] [.mp (fI p1)] (.aZ []) [.mp (fI r)] := by
 unfold oh at h
 refine ah true Tryz.func103 rfl (nt Tryz.ntmps103 rfl) fun Q hQ t ht => ?_
 conv at ht => whnf
 subst ht
 refine .q fun K1 k1 => rg 1 ?_
 refine k1 _ _ ?_
 refine .q fun K2 k2 => ?_
 obtain ⟨s1, hj1, h⟩ := ob h
 have hR1 : ∀ t9 h9, Le 1 t9 h9 (.unk :: (.mapr 0 :: (.ptr 1 0 :: (u16 (u4 []))))) [.mp (fI s1), .box [.i p0.kind, .str p0.name, aH p0.kids]] → K2 t9 h9 := by
  intro t9 h9 hw
  refine k2 _ _ (AW.le hw ?_)
  clear hw
  refine .q fun K3 k3 => rg 0 ?_
  refine bB (l := p0.kids) (f := aF) ?_
  refine k3 _ _ ?_
  refine .block ?_
  obtain ⟨o1, ho1, h⟩ := ob h
  have hR2 : ∀ s3 : List (Str × Bool), o1 = .nx s3 → ∀ t9 h9, Le 1 t9 h9 (u16 (u4 (u2 (.unk :: [])))) [.mp (fI s3)] → Q .normal t9 h9 := by
   intro s3 ho
   subst ho
   dsimp only [LR.el] at h
   intro t9 h9 hw
   have e9 := sj h
   subst e9
   refine hQ _ _ _ (dz (u16 (u4 (u2 (.unk :: [])))) [.mp (fI s3)] (hw.trans (wk [some 0] (.u16 (.u4 (.u2 (.u .nil)))) (.old .mB .nil) rfl)) (bG aC [0] rfl (.cons (congrArg AObj.mp (dB (f := (fun (x : Bool) => .bool x)) (fun g x => rfl) _ _)) .nil) ?_))
   conv => whnf
   first | rfl | (simp; done) | (simp; rfl) | (simp; constructor <;> rfl)
  refine .loopS (nK n rec_typing_collect p0) (fun (s2 : Int × (List (Str × Bool))) => (.unk :: (.mapr 0 :: (u8 (u2 (.unk :: (aH p0.kids :: (.i (p0.kids.length : Int) :: (.i s2.1 :: (u4 (u2 (.unk :: [])))))))))))) (fun (s2 : Int × (List (Str × Bool))) => [.mp (fI s2.2)]) ho1 (fun _ => rfl) (wk [some 0] (.u (.c rfl (.u8 (.u2 (.u (.e aD (.c rfl (.c rfl (.u4 (.u2 (.u .nil))))))))))) (.old .mB .nil) rfl) ?_
  intro n1 s2 hs1 KL1 hKL1
  unfold nK at hs1
  refine .q fun K4 k4 => rg 0 ?_
  refine k4 _ _ ?_
  refine .q fun K5 k5 => ?_
  refine .aB rfl hs1 (fun hc1 hs1 => ?_) (fun hc1 hs1 => ?_)
  ·refine .skip ?_
   refine k5 _ _ ?_
   refine .q fun K6 k6 => ?_
   refine .block ?_
   refine .q fun K7 k7 => rg 1 ?_
   obtain ⟨x1, hx1, hs1⟩ := ob hs1
   refine aI (l := p0.kids) (f := aF) (cs := [.i ((x1).kind), .str ((x1).name), aH ((x1).kids)]) hx1 (aL x1) rfl ?_
   refine k7 _ _ ?_
   refine rg 0 ?_
   obtain ⟨x2, hx2, hs1⟩ := ob hs1
   refine bU [0] [] [aU x1, .mapr 0] [aU x1, .mapr 0] (hrec_typing_collect _ _ _ hx2) adG rfl (.cons (congrArg AObj.mp (dB (f := (fun (x : Bool) => .bool x)) (fun g x => rfl) _ _)) .nil) (by simp; try decide) (.cons (.same _) (.cons (.same _) .nil)) (rn := .aZ []) (rfl) (Hn := [.mp (fI x2)]) ((bK (congrArg AObj.mp (dB (f := (fun (x : Bool) => .bool x)) (fun g x => rfl) _ _)) rfl)) ?_
   refine k6 _ _ ?_
   refine .know 15 0 fun hv1 => ?_
   refine .know 13 0 fun hv2 => ?_
   refine rg 0 ?_
   refine ⟨(s2.1 + 1), by have := dK hv1; have := fU hv2; have h8 := of_decide_eq_true hc1; exact bI (by omega) (by omega), ?_⟩
   exact hKL1 _ _ _ hs1 (wk [some 0] (.u (.c rfl (.u8 (.u2 (.u (.e aD (.c rfl (.c rfl (.u4 (.u2 (.u .nil))))))))))) (.old .mB .nil) rfl)
  refine .exit ?_
  exact hR2 _ (sj hs1).symm _ _ (li (.u16 (.u4 (.u2 (.u .n)))))
 refine .q fun K8 k8 => rg 0 ?_
 refine k8 _ _ ?_
 refine .aB rfl hj1 (fun hc2 hj1 => ?_) (fun hc2 hj1 => ?_)
 ·refine rg 0 ?_
  obtain ⟨x3, hx3, hj1⟩ := ob hj1
  refine Il (m := p1) (f := (fun (x : Bool) => .bool x)) hx3 rfl ?_
  cases hj1
  exact hR1 _ _ (li (.u (.s (.s (.u16 (.u4 .n))))))
 refine .skip ?_
 cases hj1
 exact hR1 _ _ (li (.u (.s (.s (.u16 (.u4 .n))))))
theorem ND (n : Nat) : zR (jG n) := by
 induction n with
 | zero => exact (fun p0 p1 r h => by unfold jG at h; cases h)
 | succ n ih =>
  exact (fun p0 p1 r h => GV n _ ih p0 p1 r (by unfold jG at h; exact h))
theorem PV (n : Nat) : zR (jG n) := (ND n)
end Abs
end Go.Proofs.YtiiaccpcoclklaaGreat
