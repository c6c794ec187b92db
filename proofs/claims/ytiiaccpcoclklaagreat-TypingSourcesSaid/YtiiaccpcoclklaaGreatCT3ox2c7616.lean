/-
  Contracts of Go functions (printed). Conditions: none.
-/
import Derived.KernelRfl
import Derived.Test.YtiiaccpcoclklaaGreatCTDox9821a8
import Derived.Test.YtiiaccpcoclklaaGreatCNilox810bc4
set_option linter.unusedSimpArgs false
set_option linter.unusedVariables false
namespace Go.Proofs.YtiiaccpcoclklaaGreat
namespace Abs
open Go Go.Proofs
set_option maxRecDepth 100000
set_option maxHeartbeats 40000000
theorem rX (n : Nat) (p0 : Ty) (r : Bool) (h : mJ n p0 = some r) : aB Tryz.prog 92 [bn p0] [] (.bool r) [] := by
 unfold mJ at h
 refine ah true Tryz.func92 rfl (nt Tryz.ntmps92 rfl) fun Q hQ t ht => ?_
 conv at ht => whnf
 subst ht
 refine .r1 fun K1 k1 => (k1 _ _ ?_)
 refine .r1 fun K2 k2 => (k2 _ _ ?_)
 refine .r fun K3 k3 => ?_
 obtain ⟨x1, hx1, h⟩ := ob h
 refine bZ [1] [] [.ptr 0 0, bn p0, .i 1, .bool false] [.ptr 1 0, bn p0, .i 1, .bool false] (Lj _ _ _ _ _ _ _ _ hx1) aM rfl (.cons (rfl) .nil) (by simp; try decide) (.cons (.same _) (.cons (.same _) (.cons (.same _) (.cons (.same _) .nil)))) (rn := .bool x1.1) (rfl) (Hn := [.box [.i x1.2, .i 16, .i 6]]) ((bN (rfl) rfl)) (k3 _ _ ?_)
 refine .ret ?_
 obtain rfl := sj h
 exact hQ _ _ _ rp
abbrev qep (qd3 : (List Ty) → Int → Option Int) : Prop := ∀ (p0 : List Ty) (p1 r : Int), qd3 p0 p1 = some r → aB Tryz.prog 245 [aH p0, .func 179 [.ptr 0 0]] [.box [.i p1]] (.i r) [.box [.i p1]]
abbrev qel (qdz : (List Ty) → Int → Option Bool) : Prop := ∀ (p0 : List Ty) (p1 : Int) (r : Bool), qdz p0 p1 = some r → aB Tryz.prog 178 [aH p0, .func 179 [.ptr 0 0]] [.box [.i p1]] (.bool r) [.box [.i p1]]
abbrev qez (qeb : Ty → Int → Option Bool) : Prop := ∀ (p0 : Ty) (p1 : Int) (r : Bool), qeb p0 p1 = some r → aB Tryz.prog 96 [bn p0, .i p1] [] (.bool r) []
abbrev qey (qec : Ty → Int → Option Bool) : Prop := ∀ (p0 : Ty) (p1 : Int) (r : Bool), qec p0 p1 = some r → aB Tryz.prog 179 [bn p0, .ptr 0 0] [.box [.i p1]] (.bool r) [.box [.i p1]]
theorem F7 (n : Nat) (qd3 : (List Ty) → Int → Option Int) (qdz : (List Ty) → Int → Option Bool) (qeb : Ty → Int → Option Bool) (qec : Ty → Int → Option Bool) (qcd : qep qd3) (qb9 : qel qdz) (qcl : qez qeb) (qcm : qey qec) (p0 : List Ty) (p1 r : Int) (h : kM n qd3 qdz qeb qec p0 p1 = some r) : aB Tryz.prog 245 [aH p0, .func 179 [.ptr 0 0]] [.box [.i p1]] (.i r) [.box [.i p1]] := by
 unfold kM at h
 refine ah true Tryz.func245 rfl (nt Tryz.ntmps245 rfl) fun Q hQ t ht => ?_
 conv at ht => whnf
 subst ht
 refine .r fun K1 k1 => (k1 _ _ ?_)
 refine .q fun K2 k2 => .r fun K3 k3 => (aV (l := p0) (f := aI) ?_)
 refine k3 _ _ (.block ?_)
 obtain ⟨o1, ho1, h⟩ := ob h
 have hR1 : ∀ s2 : Unit, o1 = .nx s2 → ∀ t9 h9, Le 1 t9 h9 (u16 (u2 (.unk :: []))) [.box [.i p1]] → K2 t9 h9 := by
  intro s2 ho
  subst ho
  dsimp only [LR.el] at h
  intro t9 h9 hw
  refine k2 _ _ (AW.le hw ?_)
  refine .r fun K4 k4 => (k4 _ _ ?_)
  refine .ret ?_
  obtain rfl := sj h
  exact hQ _ _ _ (rI [0])
 refine .loopS (mg n qd3 qdz qeb qec p0 p1) (fun (s1 : Int) => (aH p0 :: (.func 179 [.ptr 0 0] :: (u4 (.unk :: (.i (p0.length : Int) :: (.i s1 :: (u8 (u2 []))))))))) (fun (s1 : Int) => [.box [.i p1]]) ho1 (fun _ => rfl) (li (.s (.s (.u4 (.u (.s (.s (.u8 (.u2 .n))))))))) ?_
 intro n1 s1 hs1 KL1 hKL1
 unfold mg at hs1
 refine .r fun K5 k5 => (k5 _ _ ?_)
 refine .q fun K6 k6 => (.ak rfl hs1 (fun hc1 hs1 => ?_) (fun hc1 hs1 => ?_))
 ·refine .skip (k6 _ _ ?_)
  refine .q fun K7 k7 => (.block ?_)
  refine .r fun K8 k8 => (k8 _ _ ?_)
  refine .r fun K9 k9 => ?_
  obtain ⟨x1, hx1, hs1⟩ := ob hs1
  refine aG (l := p0) (f := aI) (cs := [.i ((x1).kind), .str ((x1).name), aH ((x1).kids)]) hx1 (aR x1) rfl ?_
  obtain ⟨x2, hx2, hs1⟩ := ob hs1
  refine cg [0] [] [bn x1, .ptr 0 0] (qcm _ _ _ hx2) (.bool x2) [.box [.i p1]] (k9 _ _ ?_)
  refine .ak rfl hs1 (fun hc2 hs1 => ?_) (fun hc2 hs1 => ?_)
  ·refine .r fun K10 k10 => (k10 _ _ ?_)
   refine .ret ?_
   obtain rfl := sj hs1
   dsimp only [LR.el] at h
   obtain rfl := sj h
   exact hQ _ _ _ (rI [0])
  refine .skip (k7 _ _ ?_)
  refine .know 5 0 fun hv1 => (.know 0 0 fun hv2 => ?_)
  refine rg 0 (⟨(s1 + 1), by have := dz hv1; have := fG hv2; have h8 := of_decide_eq_true hc1; exact bC (by omega) (by omega), ?_⟩)
  exact hKL1 _ _ _ hs1 (li (.s (.s (.u4 (.u (.s (.s (.u8 (.u2 .n)))))))))
 refine .exit ?_
 exact hR1 _ (sj hs1).symm _ _ (li (.u16 (.u2 (.u .n))))
theorem Ee (n : Nat) (qd3 : (List Ty) → Int → Option Int) (qdz : (List Ty) → Int → Option Bool) (qeb : Ty → Int → Option Bool) (qec : Ty → Int → Option Bool) (qcd : qep qd3) (qb9 : qel qdz) (qcl : qez qeb) (qcm : qey qec) (p0 : List Ty) (p1 : Int) (r : Bool) (h : jG n qd3 qdz qeb qec p0 p1 = some r) : aB Tryz.prog 178 [aH p0, .func 179 [.ptr 0 0]] [.box [.i p1]] (.bool r) [.box [.i p1]] := by
 unfold jG at h
 refine ah true Tryz.func178 rfl (nt Tryz.ntmps178 rfl) fun Q hQ t ht => ?_
 conv at ht => whnf
 subst ht
 refine .r fun K1 k1 => (k1 _ _ ?_)
 refine .r fun K2 k2 => ?_
 obtain ⟨x1, hx1, h⟩ := ob h
 refine cg [0] [] [aH p0, .func 179 [.ptr 0 0]] (qcd _ _ _ hx1) (.i x1) [.box [.i p1]] (k2 _ _ ?_)
 refine .ret ?_
 obtain rfl := sj h
 exact hQ _ _ _ (rI [0])
theorem L9 (n : Nat) (qd3 : (List Ty) → Int → Option Int) (qdz : (List Ty) → Int → Option Bool) (qeb : Ty → Int → Option Bool) (qec : Ty → Int → Option Bool) (qcd : qep qd3) (qb9 : qel qdz) (qcl : qez qeb) (qcm : qey qec) (p0 : Ty) (p1 : Int) (r : Bool) (h : qX n qd3 qdz qeb qec p0 p1 = some r) : aB Tryz.prog 96 [bn p0, .i p1] [] (.bool r) [] := by
 unfold qX at h
 refine ah true Tryz.func96 rfl (nt Tryz.ntmps96 rfl) fun Q hQ t ht => ?_
 conv at ht => whnf
 subst ht
 refine .q fun K1 k1 => rg 2 (k1 _ _ ?_)
 refine .q fun K2 k2 => ?_
 obtain ⟨s1, hj1, h⟩ := ob h
 have hR1 : ∀ t9 h9, Le 0 t9 h9 (u4 (.bool s1 :: (u8 (u2 [])))) [] → K2 t9 h9 := by
  intro t9 h9 hw
  refine k2 _ _ (AW.le hw ?_)
  clear hw
  refine .ret ?_
  obtain rfl := sj h
  exact hQ _ _ _ rp
 refine rg 0 (aD hj1 (fun hc1 hj1 => ?_) (fun hc1 hj1 => ?_))
 ·cases hj1
  exact hR1 _ _ (wk [] (.u4 (.c rfl (.u8 (.u2 .nil)))) .nil rfl)
 obtain ⟨x1, hx1, hj1⟩ := ob hj1
 refine bZ [1] [] [aH p0.kids, .func 179 [.ptr 0 0]] [aH p0.kids, .func 179 [.ptr 1 0]] (qb9 _ _ _ hx1) aM rfl (.cons (rfl) .nil) (by simp; try decide) (.cons (.same _) (.cons (.same _) .nil)) (rn := .bool x1) (rfl) (Hn := [.box [.i p1]]) ((bN (rfl) rfl)) ?_
 cases hj1
 exact hR1 _ _ (wk [] (.u4 (.c rfl (.u8 (.u2 .nil)))) .nil rfl)
theorem J2 (n : Nat) (qd3 : (List Ty) → Int → Option Int) (qdz : (List Ty) → Int → Option Bool) (qeb : Ty → Int → Option Bool) (qec : Ty → Int → Option Bool) (qcd : qep qd3) (qb9 : qel qdz) (qcl : qez qeb) (qcm : qey qec) (p0 : Ty) (p1 : Int) (r : Bool) (h : pF n qd3 qdz qeb qec p0 p1 = some r) : aB Tryz.prog 179 [bn p0, .ptr 0 0] [.box [.i p1]] (.bool r) [.box [.i p1]] := by
 unfold pF at h
 refine ah true Tryz.func179 rfl (nt Tryz.ntmps179 rfl) fun Q hQ t ht => ?_
 conv at ht => whnf
 subst ht
 refine .r1 fun K1 k1 => (k1 _ _ ?_)
 refine .r fun K2 k2 => ?_
 obtain ⟨x1, hx1, h⟩ := ob h
 refine aj (qcl _ _ _ hx1) aM (.cons (.same _) (.cons (.same _) .nil)) (fun g => by simp) (fun g => rfl) (k2 _ _ ?_)
 refine .ret ?_
 obtain rfl := sj h
 exact hQ _ _ _ (rI [0])
theorem oP (n : Nat) : qep (iP n) ∧ qel (fQ n) ∧ qez (jP n) ∧ qey (jF n) := by
 induction n with
 | zero => exact ⟨(fun p0 p1 r h => by unfold iP at h; cases h), (fun p0 p1 r h => by unfold fQ at h; cases h), (fun p0 p1 r h => by unfold jP at h; cases h), (fun p0 p1 r h => by unfold jF at h; cases h)⟩
 | succ n ih =>
  exact ⟨(fun p0 p1 r h => F7 n _ _ _ _ ih.1 ih.2.1 ih.2.2.1 ih.2.2.2 p0 p1 r (by unfold iP at h; exact h)), (fun p0 p1 r h => Ee n _ _ _ _ ih.1 ih.2.1 ih.2.2.1 ih.2.2.2 p0 p1 r (by unfold fQ at h; exact h)), (fun p0 p1 r h => L9 n _ _ _ _ ih.1 ih.2.1 ih.2.2.1 ih.2.2.2 p0 p1 r (by unfold jP at h; exact h)), (fun p0 p1 r h => J2 n _ _ _ _ ih.1 ih.2.1 ih.2.2.1 ih.2.2.2 p0 p1 r (by unfold jF at h; exact h))⟩
theorem IU (n : Nat) : qez (jP n) := (oP n).2.2.1
theorem AO (n : Nat) (p0 : Ty) (r : Bool) (h : jC n p0 = some r) : aB Tryz.prog 95 [bn p0] [] (.bool r) [] := by
 unfold jC at h
 refine ah true Tryz.func95 rfl (nt Tryz.ntmps95 rfl) fun Q hQ t ht => ?_
 conv at ht => whnf
 subst ht
 refine .r1 fun K1 k1 => (k1 _ _ ?_)
 refine .q fun K2 k2 => ?_
 obtain ⟨s1, hj1, h⟩ := ob h
 have hR1 : ∀ t9 h9, Le 0 t9 h9 (u2 (.bool s1 :: (u4 (u2 (.unk :: []))))) [] → K2 t9 h9 := by
  intro t9 h9 hw
  refine k2 _ _ (AW.le hw ?_)
  clear hw
  refine .ret ?_
  obtain rfl := sj h
  exact hQ _ _ _ rp
 refine rg 0 ?_
 obtain ⟨x1, hx1, hj1⟩ := ob hj1
 refine aj (rX _ _ _ hx1) aM (.cons (.same _) .nil) (fun g => by simp) (fun g => rfl) (aD hj1 (fun hc1 hj1 => ?_) (fun hc1 hj1 => ?_))
 ·obtain ⟨x2, hx2, hj1⟩ := ob hj1
  refine aj (IU _ _ _ _ hx2) aM (.cons (.same _) (.cons (.same _) .nil)) (fun g => by simp) (fun g => rfl) ?_
  cases hj1
  exact hR1 _ _ (wk [] (.u2 (.c rfl (.u4 (.u2 (.u .nil))))) .nil rfl)
 cases hj1
 exact hR1 _ _ (wk [] (.u2 (.c rfl (.u4 (.u2 (.u .nil))))) .nil rfl)
abbrev qex (qea : Ty → (List (Str × Bool)) → Option (List (Str × Bool))) : Prop := ∀ (p0 : Ty) (p1 : List (Str × Bool)) (r : List (Str × Bool)), qea p0 p1 = some r → aB Tryz.prog 103 [bn p0, .mapr 0] [.mp (iB p1)] (.aW []) [.mp (iB r)]
theorem NV (n : Nat) (qea : Ty → (List (Str × Bool)) → Option (List (Str × Bool))) (qck : qex qea) (p0 : Ty) (p1 : List (Str × Bool)) (r : List (Str × Bool)) (h : sU n qea p0 p1 = some r) : aB Tryz.prog 103 [bn p0, .mapr 0] [.mp (iB p1)] (.aW []) [.mp (iB r)] := by
 unfold sU at h
 refine ah true Tryz.func103 rfl (nt Tryz.ntmps103 rfl) fun Q hQ t ht => ?_
 conv at ht => whnf
 subst ht
 refine .r1 fun K1 k1 => (k1 _ _ ?_)
 refine .q fun K2 k2 => ?_
 obtain ⟨s1, hj1, h⟩ := ob h
 have hR1 : ∀ t9 h9, Le 1 t9 h9 (.unk :: (.mapr 0 :: (.ptr 1 0 :: (u16 (u4 []))))) [.mp (iB s1), .box [.i p0.kind, .str p0.name, aH p0.kids]] → K2 t9 h9 := by
  intro t9 h9 hw
  refine k2 _ _ (AW.le hw ?_)
  clear hw
  refine .r fun K3 k3 => (aV (l := p0.kids) (f := aI) ?_)
  refine k3 _ _ (.block ?_)
  obtain ⟨o1, ho1, h⟩ := ob h
  have hR2 : ∀ s3 : List (Str × Bool), o1 = .nx s3 → ∀ t9 h9, Le 1 t9 h9 (u16 (u4 (u2 (.unk :: [])))) [.mp (iB s3)] → Q .normal t9 h9 := by
   intro s3 ho
   subst ho
   dsimp only [LR.el] at h
   intro t9 h9 hw
   obtain rfl := sj h
   refine hQ _ _ _ (gF (u16 (u4 (u2 (.unk :: [])))) [.mp (iB s3)] (hw.trans (wk [some 0] (.u16 (.u4 (.u2 (.u .nil)))) (.old .mB .nil) rfl)) (dA dJ [0] rfl (.cons (congrArg AObj.mp (eu (f := (fun (x : Bool) => .bool x)) (fun g x => rfl) _ _)) .nil) ?_))
   exact fin
  refine .loopS (rV n qea p0) (fun (s2 : Int × (List (Str × Bool))) => (.unk :: (.mapr 0 :: (u8 (u2 (.unk :: (aH p0.kids :: (.i (p0.kids.length : Int) :: (.i s2.1 :: (u4 (u2 (.unk :: [])))))))))))) (fun (s2 : Int × (List (Str × Bool))) => [.mp (iB s2.2)]) ho1 (fun _ => rfl) (wk [some 0] (.u (.c rfl (.u8 (.u2 (.u (.e aA (.c2 (.u4 (.u2 (.u .nil)))))))))) (.old .mB .nil) rfl) ?_
  intro n1 s2 hs1 KL1 hKL1
  unfold rV at hs1
  refine .r fun K4 k4 => (k4 _ _ ?_)
  refine .q fun K5 k5 => (.ak rfl hs1 (fun hc1 hs1 => ?_) (fun hc1 hs1 => ?_))
  ·refine .skip (k5 _ _ ?_)
   refine .q fun K6 k6 => (.block ?_)
   refine .r1 fun K7 k7 => ?_
   obtain ⟨x1, hx1, hs1⟩ := ob hs1
   refine aG (l := p0.kids) (f := aI) (cs := [.i ((x1).kind), .str ((x1).name), aH ((x1).kids)]) hx1 (aR x1) rfl (k7 _ _ ?_)
   refine rg 0 ?_
   obtain ⟨x2, hx2, hs1⟩ := ob hs1
   refine bZ [0] [] [bn x1, .mapr 0] [bn x1, .mapr 0] (qck _ _ _ hx2) aM rfl (.cons (congrArg AObj.mp (eu (f := (fun (x : Bool) => .bool x)) (fun g x => rfl) _ _)) .nil) (by simp; try decide) (.cons (.same _) (.cons (.same _) .nil)) (rn := .aW []) (rfl) (Hn := [.mp (iB x2)]) ((bN (congrArg AObj.mp (eu (f := (fun (x : Bool) => .bool x)) (fun g x => rfl) _ _)) rfl)) (k6 _ _ ?_)
   refine .know 15 0 fun hv1 => (.know 13 0 fun hv2 => ?_)
   refine rg 0 (⟨(s2.1 + 1), by have := dz hv1; have := fG hv2; have h8 := of_decide_eq_true hc1; exact bC (by omega) (by omega), ?_⟩)
   exact hKL1 _ _ _ hs1 (wk [some 0] (.u (.c rfl (.u8 (.u2 (.u (.e aA (.c2 (.u4 (.u2 (.u .nil)))))))))) (.old .mB .nil) rfl)
  refine .exit ?_
  exact hR2 _ (sj hs1).symm _ _ (li (.u16 (.u4 (.u2 (.u .n)))))
 refine .r fun K8 k8 => (k8 _ _ ?_)
 refine .ak rfl hj1 (fun hc2 hj1 => ?_) (fun hc2 hj1 => ?_)
 ·refine rg 0 ?_
  obtain ⟨x3, hx3, hj1⟩ := ob hj1
  refine Oh (m := p1) (f := (fun (x : Bool) => .bool x)) hx3 rfl ?_
  cases hj1
  exact hR1 _ _ (li (.u (.s (.s (.u16 (.u4 .n))))))
 refine .skip ?_
 cases hj1
 exact hR1 _ _ (li (.u (.s (.s (.u16 (.u4 .n))))))
theorem SL (n : Nat) : qex (mH n) := by
 induction n with
 | zero => exact (fun p0 p1 r h => by unfold mH at h; cases h)
 | succ n ih =>
  exact (fun p0 p1 r h => NV n _ ih p0 p1 r (by unfold mH at h; exact h))
theorem Xa (n : Nat) : qex (mH n) := (SL n)
theorem Co (n : Nat) (p0 : Ty) (r : List Str) (h : mV n p0 = some r) : aB Tryz.prog 45 [bn p0] [] (bX r) [] := by
 unfold mV at h
 refine ah true Tryz.func45 rfl (nt Tryz.ntmps45 rfl) fun Q hQ t ht => ?_
 conv at ht => whnf
 subst ht
 refine .r1 fun K1 k1 => (k1 _ _ ?_)
 refine .q fun K2 k2 => .r fun K3 k3 => ?_
 obtain ⟨x1, hx1, h⟩ := ob h
 refine aj (rX _ _ _ hx1) aM (.cons (.same _) .nil) (fun g => by simp) (fun g => rfl) (k3 _ _ ?_)
 refine .ak rfl h (fun hc1 h => ?_) (fun hc1 h => ?_)
 ·refine .r fun K4 k4 => (k4 _ _ ?_)
  refine .ret ?_
  obtain rfl := sj h
  exact hQ _ _ _ rp
 refine .skip (k2 _ _ ?_)
 refine .r1 fun K5 k5 => (k5 _ _ ?_)
 refine .r fun K6 k6 => ?_
 obtain ⟨x2, hx2, h⟩ := ob h
 refine bZ [1] [] [bn p0, .mapr 0] [bn p0, .mapr 1] (Xa _ _ _ _ hx2) aM rfl (.cons (congrArg AObj.mp (eu (f := (fun (x : Bool) => .bool x)) (fun g x => rfl) _ _)) .nil) (by simp; try decide) (.cons (.same _) (.cons (.same _) .nil)) (rn := .aW []) (rfl) (Hn := [.mp (iB x2)]) ((bN (congrArg AObj.mp (eu (f := (fun (x : Bool) => .bool x)) (fun g x => rfl) _ _)) rfl)) (k6 _ _ ?_)
 refine .r1 fun K7 k7 => (bZ [1] [2] [.mapr 0] [.mapr 1] (Xd 0 x2 _ rfl) aM rfl (.cons (congrArg AObj.mp (eu (f := (fun (x : Bool) => .bool x)) (fun g x => rfl) _ _)) .nil) (by simp; try decide) (.cons (.same _) .nil) (rn := .func 185 [.ptr 2 0]) (by simp; try decide) (Hn := [.mp (iB x2), .box [.mapr 1]]) ((bN (congrArg AObj.mp (eu (f := (fun (x : Bool) => .bool x)) (fun g x => rfl) _ _)) (bN rfl rfl))) ?_)
 obtain ⟨x3, hx3, h⟩ := ob h
 refine bZ [1, 2] [] [.func 185 [.ptr 1 0]] [.func 185 [.ptr 2 0]] (L8 _ _ _ hx3) aM rfl (.cons (congrArg AObj.mp (eu (f := (fun (x : Bool) => .bool x)) (fun g x => rfl) _ _)) (.cons rfl .nil)) (by simp; try decide) (.cons (.same _) .nil) (rn := bX x3) (by simp; try decide) (Hn := [.mp (iB x2), .box [.mapr 1]]) ((bN (congrArg AObj.mp (eu (f := (fun (x : Bool) => .bool x)) (fun g x => rfl) _ _)) (bN rfl rfl))) (k7 _ _ ?_)
 refine .ret ?_
 obtain rfl := sj h
 exact hQ _ _ _ rp
theorem NQ (n : Nat) (p0 : Carrier) (p1 : Str) (r : Bool) (h : G9 n p0 p1 = some r) : aB Tryz.prog 248 [.agg [.str p0.name, bX p0.elems], .ptr 0 0] [.box [.str p1]] (.bool r) [.box [.str p1]] := by
 unfold G9 at h
 refine ah true Tryz.func248 rfl (nt Tryz.ntmps248 rfl) fun Q hQ t ht => ?_
 conv at ht => whnf
 subst ht
 refine .r1 fun K1 k1 => (k1 _ _ ?_)
 refine .r fun K2 k2 => (k2 _ _ ?_)
 refine .ret ?_
 obtain rfl := sj h
 exact hQ _ _ _ (rI [0])
theorem IJ (n : Nat) (p0 : List Carrier) (p1 : Str) (r : Int) (h : qV n p0 p1 = some r) : aB Tryz.prog 123 [bT p0, .func 248 [.ptr 0 0]] [.box [.str p1]] (.i r) [.box [.str p1]] := by
 unfold qV at h
 refine ah true Tryz.func123 rfl (nt Tryz.ntmps123 rfl) fun Q hQ t ht => ?_
 conv at ht => whnf
 subst ht
 refine .r fun K1 k1 => (k1 _ _ ?_)
 refine .q fun K2 k2 => .r fun K3 k3 => (aV (l := p0) (f := aL) ?_)
 refine k3 _ _ (.block ?_)
 obtain ⟨o1, ho1, h⟩ := ob h
 have hR1 : ∀ s2 : Unit, o1 = .nx s2 → ∀ t9 h9, Le 1 t9 h9 (u16 (u2 (.unk :: []))) [.box [.str p1]] → K2 t9 h9 := by
  intro s2 ho
  subst ho
  dsimp only [LR.el] at h
  intro t9 h9 hw
  refine k2 _ _ (AW.le hw ?_)
  refine .r fun K4 k4 => (k4 _ _ ?_)
  refine .ret ?_
  obtain rfl := sj h
  exact hQ _ _ _ (rI [0])
 refine .loopS (lD n p0 p1) (fun (s1 : Int) => (bT p0 :: (.func 248 [.ptr 0 0] :: (u4 (.unk :: (.i (p0.length : Int) :: (.i s1 :: (u8 (u2 []))))))))) (fun (s1 : Int) => [.box [.str p1]]) ho1 (fun _ => rfl) (li (.s (.s (.u4 (.u (.s (.s (.u8 (.u2 .n))))))))) ?_
 intro n1 s1 hs1 KL1 hKL1
 unfold lD at hs1
 refine .r fun K5 k5 => (k5 _ _ ?_)
 refine .q fun K6 k6 => (.ak rfl hs1 (fun hc1 hs1 => ?_) (fun hc1 hs1 => ?_))
 ·refine .skip (k6 _ _ ?_)
  refine .q fun K7 k7 => (.block ?_)
  refine .r fun K8 k8 => (k8 _ _ ?_)
  refine .r fun K9 k9 => ?_
  obtain ⟨x1, hx1, hs1⟩ := ob hs1
  refine aG (l := p0) (f := aL) (cs := [.str ((x1).name), bX ((x1).elems)]) hx1 (rfl) rfl (cg [0] [] [.agg [.str x1.name, bX x1.elems], .ptr 0 0] (NQ 0 x1 p1 _ rfl) (.bool (x1.name == p1)) [.box [.str p1]] ?_)
  refine k9 _ _ (.ak rfl hs1 (fun hc2 hs1 => ?_) (fun hc2 hs1 => ?_))
  ·refine .r fun K10 k10 => (k10 _ _ ?_)
   refine .ret ?_
   obtain rfl := sj hs1
   dsimp only [LR.el] at h
   obtain rfl := sj h
   exact hQ _ _ _ (rI [0])
  refine .skip (k7 _ _ ?_)
  refine .know 5 0 fun hv1 => (.know 0 0 fun hv2 => ?_)
  refine rg 0 (⟨(s1 + 1), by have := dz hv1; have := fG hv2; have h8 := of_decide_eq_true hc1; exact bC (by omega) (by omega), ?_⟩)
  exact hKL1 _ _ _ hs1 (li (.s (.s (.u4 (.u (.s (.s (.u8 (.u2 .n)))))))))
 refine .exit ?_
 exact hR1 _ (sj hs1).symm _ _ (li (.u16 (.u2 (.u .n))))
theorem Gr (n : Nat) (p0 : List Carrier) (p1 : Str) (r : Bool) (h : oO n p0 p1 = some r) : aB Tryz.prog 247 [bT p0, .func 248 [.ptr 0 0]] [.box [.str p1]] (.bool r) [.box [.str p1]] := by
 unfold oO at h
 refine ah true Tryz.func247 rfl (nt Tryz.ntmps247 rfl) fun Q hQ t ht => ?_
 conv at ht => whnf
 subst ht
 refine .r fun K1 k1 => (k1 _ _ ?_)
 refine .r fun K2 k2 => ?_
 obtain ⟨x1, hx1, h⟩ := ob h
 refine cg [0] [] [bT p0, .func 248 [.ptr 0 0]] (IJ _ _ _ _ hx1) (.i x1) [.box [.str p1]] (k2 _ _ ?_)
 refine .ret ?_
 obtain rfl := sj h
 exact hQ _ _ _ (rI [0])
theorem QU (n : Nat) (p0 : Env) (p1 : Str) (r : Bool) (h : vN n p0 p1 = some r) : aB Tryz.prog 182 [dR p0, .str p1] [] (.bool r) [] := by
 unfold vN at h
 refine ah true Tryz.func182 rfl (nt Tryz.ntmps182 rfl) fun Q hQ t ht => ?_
 conv at ht => whnf
 subst ht
 refine .q fun K1 k1 => rg 2 (k1 _ _ ?_)
 refine .r fun K2 k2 => ?_
 obtain ⟨x1, hx1, h⟩ := ob h
 refine bZ [1] [] [bT p0.carriers, .func 248 [.ptr 0 0]] [bT p0.carriers, .func 248 [.ptr 1 0]] (Gr _ _ _ _ hx1) aM rfl (.cons (rfl) .nil) (by simp; try decide) (.cons (.same _) (.cons (.same _) .nil)) (rn := .bool x1) (rfl) (Hn := [.box [.str p1]]) ((bN (rfl) rfl)) (k2 _ _ ?_)
 refine .ret ?_
 obtain rfl := sj h
 exact hQ _ _ _ rp
theorem PS (n : Nat) (p0 : Str) (p1 : List Carrier) (p2 : List Decl) (r : Bool) (h : vI n p0 p1 p2 = some r) : aB Tryz.prog 181 [.str p0, .ptr 0 0] [.box [bT p1, bW p2]] (.bool r) [.box [bT p1, bW p2]] := by
 unfold vI at h
 refine ah true Tryz.func181 rfl (nt Tryz.ntmps181 rfl) fun Q hQ t ht => ?_
 conv at ht => whnf
 subst ht
 refine .r fun K1 k1 => (k1 _ _ ?_)
 refine .r fun K2 k2 => ?_
 obtain ⟨x1, hx1, h⟩ := ob h
 refine aj (QU _ _ _ _ hx1) aM (.cons (.same _) (.cons (.same _) .nil)) (fun g => by simp) (fun g => rfl) (k2 _ _ ?_)
 refine .ret ?_
 obtain rfl := sj h
 refine hQ _ _ _ (gF (u2 (.unk :: (.bool (!x1) :: (u4 [])))) [.box [bT p1, bW p2]] (wk [some 0] (.u2 (.u (.c rfl (.u4 .nil)))) (.b rfl (.e au (.e aF .nil)) .nil) rfl) (dA dJ [0] rfl (.cons (by simp only [dx, ren, bS, bK, dM, bO, aQ, aY, bQ, aA, aK, au, aF, aP]; try rfl) .nil) ?_))
 exact fin
theorem Jt (n : Nat) (p0 : List Str) (p1 : List Carrier) (p2 : List Decl) (r : Int) (h : sK n p0 p1 p2 = some r) : aB Tryz.prog 246 [bX p0, .func 181 [.ptr 0 0]] [.box [bT p1, bW p2]] (.i r) [.box [bT p1, bW p2]] := by
 unfold sK at h
 refine ah true Tryz.func246 rfl (nt Tryz.ntmps246 rfl) fun Q hQ t ht => ?_
 conv at ht => whnf
 subst ht
 refine .r fun K1 k1 => (k1 _ _ ?_)
 refine .q fun K2 k2 => .r fun K3 k3 => (aV (l := p0) (f := encS) ?_)
 refine k3 _ _ (.block ?_)
 obtain ⟨o1, ho1, h⟩ := ob h
 have hR1 : ∀ s2 : Unit, o1 = .nx s2 → ∀ t9 h9, Le 1 t9 h9 (u16 (u2 (.unk :: []))) [.box [bT p1, bW p2]] → K2 t9 h9 := by
  intro s2 ho
  subst ho
  dsimp only [LR.el] at h
  intro t9 h9 hw
  refine k2 _ _ (AW.le hw ?_)
  refine .r fun K4 k4 => (k4 _ _ ?_)
  refine .ret ?_
  obtain rfl := sj h
  refine hQ _ _ _ (gF (u4 (.i (-1) :: (u8 (u4 (u2 []))))) [.box [bT p1, bW p2]] (wk [some 0] (.u4 (.c rfl (.u8 (.u4 (.u2 .nil))))) (.b rfl (.e au (.e aF .nil)) .nil) rfl) (dA dJ [0] rfl (.cons (by simp only [dx, ren, bS, bK, dM, bO, aQ, aY, bQ, aA, aK, au, aF, aP]; try rfl) .nil) ?_))
  exact fin
 refine .loopS (mh n p0 p1 p2) (fun (s1 : Int) => (bX p0 :: (.func 181 [.ptr 0 0] :: (u4 (.unk :: (.i (p0.length : Int) :: (.i s1 :: (u8 (u2 []))))))))) (fun (s1 : Int) => [.box [bT p1, bW p2]]) ho1 (fun _ => rfl) (li (.s (.s (.u4 (.u (.s (.s (.u8 (.u2 .n))))))))) ?_
 intro n1 s1 hs1 KL1 hKL1
 unfold mh at hs1
 refine .r fun K5 k5 => (k5 _ _ ?_)
 refine .q fun K6 k6 => (.ak rfl hs1 (fun hc1 hs1 => ?_) (fun hc1 hs1 => ?_))
 ·refine .skip (k6 _ _ ?_)
  refine .q fun K7 k7 => (.block ?_)
  refine .r fun K8 k8 => (k8 _ _ ?_)
  refine .r fun K9 k9 => ?_
  obtain ⟨x1, hx1, hs1⟩ := ob hs1
  refine aG (l := p0) (f := encS) (cs := [.str (x1)]) hx1 (rfl) rfl ?_
  obtain ⟨x2, hx2, hs1⟩ := ob hs1
  refine bZ [0] [] [.str x1, .ptr 0 0] [.str x1, .ptr 0 0] (PS _ _ _ _ _ hx2) aM rfl (.cons (by simp only [dx, ren, bS, bK, dM, bO, aQ, aY, bQ, aA, aK, au, aF, aP]; try rfl) .nil) (rfl) (.cons (.same _) (.cons (.same _) .nil)) (rn := .bool x2) (rfl) (Hn := [.box [bT p1, bW p2]]) ((bN (by simp only [dx, ren, bS, bK, dM, bO, aQ, aY, bQ, aA, aK, au, aF, aP]; try rfl) rfl)) (k9 _ _ ?_)
  refine .ak rfl hs1 (fun hc2 hs1 => ?_) (fun hc2 hs1 => ?_)
  ·refine .r fun K10 k10 => (k10 _ _ ?_)
   refine .ret ?_
   obtain rfl := sj hs1
   dsimp only [LR.el] at h
   obtain rfl := sj h
   refine hQ _ _ _ (gF (u4 (.i s1 :: (u8 (u4 (u2 []))))) [.box [bT p1, bW p2]] (wk [some 0] (.u4 (.c rfl (.u8 (.u4 (.u2 .nil))))) (.b rfl (.e au (.e aF .nil)) .nil) rfl) (dA dJ [0] rfl (.cons (by simp only [dx, ren, bS, bK, dM, bO, aQ, aY, bQ, aA, aK, au, aF, aP]; try rfl) .nil) ?_))
   exact fin
  refine .skip (k7 _ _ ?_)
  refine .know 5 0 fun hv1 => (.know 0 0 fun hv2 => ?_)
  refine rg 0 (⟨(s1 + 1), by have := dz hv1; have := fG hv2; have h8 := of_decide_eq_true hc1; exact bC (by omega) (by omega), ?_⟩)
  exact hKL1 _ _ _ hs1 (li (.s (.s (.u4 (.u (.s (.s (.u8 (.u2 .n)))))))))
 refine .exit ?_
 exact hR1 _ (sj hs1).symm _ _ (li (.u16 (.u2 (.u .n))))
theorem G6 (n : Nat) (p0 : List Str) (p1 : List Carrier) (p2 : List Decl) (r : Bool) (h : pY n p0 p1 p2 = some r) : aB Tryz.prog 180 [bX p0, .func 181 [.ptr 0 0]] [.box [bT p1, bW p2]] (.bool r) [.box [bT p1, bW p2]] := by
 unfold pY at h
 refine ah true Tryz.func180 rfl (nt Tryz.ntmps180 rfl) fun Q hQ t ht => ?_
 conv at ht => whnf
 subst ht
 refine .r fun K1 k1 => (k1 _ _ ?_)
 refine .r fun K2 k2 => ?_
 obtain ⟨x1, hx1, h⟩ := ob h
 refine bZ [0] [] [bX p0, .func 181 [.ptr 0 0]] [bX p0, .func 181 [.ptr 0 0]] (Jt _ _ _ _ _ hx1) aM rfl (.cons (by simp only [dx, ren, bS, bK, dM, bO, aQ, aY, bQ, aA, aK, au, aF, aP]; try rfl) .nil) (by simp; try decide) (.cons (.same _) (.cons (.same _) .nil)) (rn := .i x1) (rfl) (Hn := [.box [bT p1, bW p2]]) ((bN (by simp only [dx, ren, bS, bK, dM, bO, aQ, aY, bQ, aA, aK, au, aF, aP]; try rfl) rfl)) (k2 _ _ ?_)
 refine .ret ?_
 obtain rfl := sj h
 refine hQ _ _ _ (gF (u4 (.bool (decide (0 ≤ x1)) :: (u4 []))) [.box [bT p1, bW p2]] (wk [some 0] (.u4 (.c rfl (.u4 .nil))) (.b rfl (.e au (.e aF .nil)) .nil) rfl) (dA dJ [0] rfl (.cons (by simp only [dx, ren, bS, bK, dM, bO, aQ, aY, bQ, aA, aK, au, aF, aP]; try rfl) .nil) ?_))
 exact fin
theorem CU (n : Nat) (p0 : Env) (p1 : Ty) (r : Bool) (h : oN n p0 p1 = some r) : aB Tryz.prog 97 [dR p0, bn p1] [] (.bool r) [] := by
 unfold oN at h
 refine ah true Tryz.func97 rfl (nt Tryz.ntmps97 rfl) fun Q hQ t ht => ?_
 conv at ht => whnf
 subst ht
 refine .q fun K1 k1 => rg 2 (k1 _ _ ?_)
 refine .r fun K2 k2 => ?_
 obtain ⟨x1, hx1, h⟩ := ob h
 refine cP (Co _ _ _ hx1) ?_
 obtain ⟨x2, hx2, h⟩ := ob h
 refine bZ [0] [] [bX x1, .func 181 [.ptr 0 0]] [bX x1, .func 181 [.ptr 0 0]] (G6 _ _ _ _ _ hx2) aM rfl (.cons (by simp only [dx, ren, bS, bK, dM, bO, aQ, aY, bQ, aA, aK, au, aF, aP]; try rfl) .nil) (by simp; try decide) (.cons (.same _) (.cons (.same _) .nil)) (rn := .bool x2) (rfl) (Hn := [.box [bT p0.carriers, bW p0.names]]) ((bN (by simp only [dx, ren, bS, bK, dM, bO, aQ, aY, bQ, aA, aK, au, aF, aP]; try rfl) rfl)) (k2 _ _ ?_)
 refine .ret ?_
 obtain rfl := sj h
 exact hQ _ _ _ rp
theorem CV (n : Nat) (p0 : Env) (r : List Str) (h : rz n p0 = some r) : aB Tryz.prog 114 [dR p0] [] (.slice (List.map encS r) (.tip 0 1)) [.tip (List.length r * 1)] := by
 unfold rz at h
 refine ah false Tryz.func114 rfl (nt Tryz.ntmps114 rfl) fun Q hQ t ht => ?_
 conv at ht => whnf
 subst ht
 refine .r1 fun K1 k1 => (k1 _ _ ?_)
 refine .r fun K2 k2 => (k2 _ _ ?_)
 refine .q fun K3 k3 => .r fun K4 k4 => (aV (l := p0.carriers) (f := aL) ?_)
 refine k4 _ _ (.block ?_)
 obtain ⟨o1, ho1, h⟩ := ob h
 have hR1 : ∀ s2 : List Str, o1 = .nx s2 → ∀ t9 h9, Le 0 t9 h9 (.unk :: (.ptr 0 0 :: (.unk :: (.slice (List.map encS s2) (.tip 1 1) :: (u32 (u2 [])))))) [.box [bT p0.carriers, bW p0.names], .tip (List.length s2 * 1)] → K3 t9 h9 := by
  intro s2 ho
  subst ho
  dsimp only [LR.el] at h
  intro t9 h9 hw
  refine k3 _ _ (AW.le hw ?_)
  refine .q fun K5 k5 => .r fun K6 k6 => (aV (l := p0.names) (f := aO) ?_)
  refine k6 _ _ (.block ?_)
  obtain ⟨o2, ho2, h⟩ := ob h
  have hR2 : ∀ s4 : List Str, o2 = .nx s4 → ∀ t9 h9, Le 0 t9 h9 (u2 (.unk :: (.slice (List.map encS s4) (.tip 0 1) :: (u32 (u2 []))))) [.tip (List.length s4 * 1)] → K5 t9 h9 := by
   intro s4 ho
   subst ho
   dsimp only [LR.el] at h
   intro t9 h9 hw
   refine k5 _ _ (AW.le hw ?_)
   refine .r fun K7 k7 => (k7 _ _ ?_)
   refine .ret ?_
   obtain rfl := sj h
   refine hQ _ _ _ (gF (u2 (.slice (List.map encS s4) (.tip 0 1) :: (u32 (u2 (.unk :: []))))) [.tip (List.length s4 * 1)] (wk [some 0] (.u2 (.cons (.bG (aY _ _) rfl) (.u32 (.u2 (.u .nil))))) (.t rfl .nil) rfl) (dA dJ [0] rfl (.cons (rfl) .nil) ?_))
   exact fin
  refine .loopS (uq n p0) (fun (s3 : (List Str) × Int) => (u2 (.unk :: (.slice (List.map encS s3.1) (.tip 0 1) :: (u16 (u4 (.unk :: (bW p0.names :: (.i (p0.names.length : Int) :: (.i s3.2 :: (u8 (u2 [])))))))))))) (fun (s3 : (List Str) × Int) => [.tip (List.length s3.1 * 1)]) ho2 (fun _ => rfl) (wk [some 1] (.u2 (.u (.cons (.bG (aY _ _) rfl) (.u16 (.u4 (.u (.e aF (.c2 (.u8 (.u2 .nil)))))))))) (.t rfl .nil) rfl) ?_
  intro n2 s3 hs2 KL2 hKL2
  unfold uq at hs2
  refine .r fun K8 k8 => (k8 _ _ ?_)
  refine .q fun K9 k9 => (.ak rfl hs2 (fun hc1 hs2 => ?_) (fun hc1 hs2 => ?_))
  ·refine .skip (k9 _ _ ?_)
   refine .q fun K10 k10 => (.block ?_)
   refine .r1 fun K11 k11 => ?_
   obtain ⟨x1, hx1, hs2⟩ := ob hs2
   refine aG (l := p0.names) (f := aO) (cs := [.str ((x1).name), .i (((x1).ty).kind), .str (((x1).ty).name), aH (((x1).ty).kids)]) hx1 (rfl) rfl (k11 _ _ ?_)
   refine rg 2 (⟨List.map encS ([x1.name]), rfl, ?_⟩)
   obtain ⟨x2, hx2, hs2⟩ := ob hs2
   refine eG (l := s3.1) (ys := [x1.name]) (f := encS) hx2 zN rfl rfl rfl (k10 _ _ ?_)
   refine .know 27 0 fun hv1 => (.know 25 0 fun hv2 => ?_)
   refine rg 0 (⟨(s3.2 + 1), by have := dz hv1; have := fG hv2; have h8 := of_decide_eq_true hc1; exact bC (by omega) (by omega), ?_⟩)
   exact hKL2 _ _ _ hs2 (wk [some 3] (.u2 (.u (.cons (.bG (aY _ _) rfl) (.u16 (.u4 (.u (.e aF (.c2 (.u8 (.u2 .nil)))))))))) (.t rfl .nil) rfl)
  refine .exit ?_
  exact hR2 _ (sj hs2).symm _ _ (li (.u2 (.u (.s (.u16 (.u16 (.u2 .n)))))))
 refine .loopS (uJ n p0) (fun (s1 : (List Str) × Int) => (.unk :: (.ptr 0 0 :: (.unk :: (.slice (List.map encS s1.1) (.tip 1 1) :: (u4 (.unk :: (bT p0.carriers :: (.i (p0.carriers.length : Int) :: (.i s1.2 :: (u16 (u8 (u2 []))))))))))))) (fun (s1 : (List Str) × Int) => [.box [bT p0.carriers, bW p0.names], .tip (List.length s1.1 * 1)]) ho1 (fun _ => rfl) (wk [some 0, none] (.u (.c rfl (.u (.cons (.nils _ _) (.u4 (.u (.e au (.c2 (.u16 (.u8 (.u2 .nil))))))))))) (.b rfl (.e au (.e aF .nil)) (.w rfl .nil)) rfl) ?_
 intro n1 s1 hs1 KL1 hKL1
 unfold uJ at hs1
 refine .r fun K12 k12 => (k12 _ _ ?_)
 refine .q fun K13 k13 => (.ak rfl hs1 (fun hc2 hs1 => ?_) (fun hc2 hs1 => ?_))
 ·refine .skip (k13 _ _ ?_)
  refine .q fun K14 k14 => (.block ?_)
  refine .r1 fun K15 k15 => ?_
  obtain ⟨x3, hx3, hs1⟩ := ob hs1
  refine aG (l := p0.carriers) (f := aL) (cs := [.str ((x3).name), bX ((x3).elems)]) hx3 (rfl) rfl (k15 _ _ ?_)
  refine rg 3 (⟨List.map encS ([x3.name]), rfl, ?_⟩)
  obtain ⟨x4, hx4, hs1⟩ := ob hs1
  refine eG (l := s1.1) (ys := [x3.name]) (f := encS) hx4 zN rfl rfl rfl ?_
  obtain ⟨x5, hx5, hs1⟩ := ob hs1
  refine eG (l := x4) (ys := x3.elems) (f := encS) hx5 zN rfl rfl rfl (⟨rfl, ?_⟩)
  refine k14 _ _ (.know 11 0 fun hv3 => ?_)
  refine .know 9 0 fun hv4 => (rg 0 ?_)
  refine ⟨(s1.2 + 1), by have := dz hv3; have := fG hv4; have h8 := of_decide_eq_true hc2; exact bC (by omega) (by omega), ?_⟩
  exact hKL1 _ _ _ hs1 (wk [some 0, some 5] (.u (.c rfl (.u (.cons (.bG (aY _ _) rfl) (.u4 (.u (.e au (.c2 (.u16 (.u8 (.u2 .nil))))))))))) (.b rfl (.e au (.e aF .nil)) (.t rfl .nil)) rfl)
 refine .exit ?_
 exact hR1 _ (sj hs1).symm _ _ (li (.u (.s (.u (.s (.u16 (.u16 (.u2 .n))))))))
theorem t5x0 {p q : Prop} (f : p → q) (h : p := by exact wk [some 0] (.u (.c rfl (.u32 (.u8 (.u4 (.u2 (.u (.e aF (.c2 (.u16 (.u2 (.u (.c rfl (.u4 .nil)))))))))))))) (.b rfl (.e au (.e aF .nil)) .nil) rfl) : q := f h
theorem Jb (n : Nat) (p0 : List Str) (r : Bool) (h : uX n p0 = some r) : aB Tryz.prog 118 [bX p0] [] (.bool r) [] := by
 unfold uX at h
 refine ah true Tryz.func118 rfl (nt Tryz.ntmps118 rfl) fun Q hQ t ht => ?_
 conv at ht => whnf
 subst ht
 refine .r fun K1 k1 => (k1 _ _ ?_)
 refine .r1 fun K2 k2 => (k2 _ _ ?_)
 refine .q fun K3 k3 => .r fun K4 k4 => (aV (l := p0) (f := encS) ?_)
 refine k4 _ _ (.block ?_)
 obtain ⟨o1, ho1, h⟩ := ob h
 have hR1 : ∀ s2 : Unit, o1 = .nx s2 → ∀ t9 h9, Le 0 t9 h9 (u16 (u2 (.unk :: []))) [] → K3 t9 h9 := by
  intro s2 ho
  subst ho
  dsimp only [LR.el] at h
  intro t9 h9 hw
  refine k3 _ _ (AW.le hw ?_)
  refine .r fun K5 k5 => (k5 _ _ ?_)
  refine .ret ?_
  obtain rfl := sj h
  exact hQ _ _ _ rp
 refine .loopS (uP n p0) (fun (s1 : Int × (List (Str × Bool))) => (u2 (.unk :: (.mapr 0 :: (u2 (.unk :: (bX p0 :: (.i (p0.length : Int) :: (.i s1.1 :: (u8 (.unk :: []))))))))))) (fun (s1 : Int × (List (Str × Bool))) => [.mp (iB s1.2)]) ho1 (fun _ => rfl) (li (.u2 (.u (.s (.u2 (.u (.s (.s (.s (.u8 (.u .n))))))))))) ?_
 intro n1 s1 hs1 KL1 hKL1
 unfold uP at hs1
 refine .r fun K6 k6 => (k6 _ _ ?_)
 refine .q fun K7 k7 => (.ak rfl hs1 (fun hc1 hs1 => ?_) (fun hc1 hs1 => ?_))
 ·refine .skip (k7 _ _ ?_)
  refine .q fun K8 k8 => (.block ?_)
  refine .r fun K9 k9 => ?_
  obtain ⟨x1, hx1, hs1⟩ := ob hs1
  refine aG (l := p0) (f := encS) (cs := [.str (x1)]) hx1 (rfl) rfl (k9 _ _ ?_)
  refine .q fun K10 k10 => .q fun K11 k11 => ?_
  obtain ⟨s3, hj1, hs1⟩ := ob hs1
  have hR2 : ∀ t9 h9, Le 0 t9 h9 (u2 (.unk :: (.mapr 0 :: (.unk :: (.str x1 :: (.unk :: (bX p0 :: (.i (p0.length : Int) :: (.i s1.1 :: (u4 (.unk :: (.bool s3 :: (u2 (.unk :: [])))))))))))))) [.mp (iB s1.2)] → K11 t9 h9 := by
   intro t9 h9 hw
   refine k11 _ _ (AW.le hw ?_)
   clear hw
   refine .ak rfl hs1 (fun hc2 hs1 => ?_) (fun hc2 hs1 => ?_)
   ·refine .r fun K12 k12 => (k12 _ _ ?_)
    refine .ret ?_
    obtain rfl := sj hs1
    dsimp only [LR.el] at h
    obtain rfl := sj h
    exact hQ _ _ _ rp
   refine .skip (k10 _ _ ?_)
   refine rg 0 ?_
   obtain ⟨x2, hx2, hs1⟩ := ob hs1
   refine Oh (m := s1.2) (f := (fun (x : Bool) => .bool x)) hx2 rfl (k8 _ _ ?_)
   refine .know 9 0 fun hv1 => (.know 7 0 fun hv2 => ?_)
   refine rg 0 (⟨(s1.1 + 1), by have := dz hv1; have := fG hv2; have h8 := of_decide_eq_true hc1; exact bC (by omega) (by omega), ?_⟩)
   exact hKL1 _ _ _ hs1 (li (.u2 (.u (.s (.u2 (.u (.s (.s (.s (.u8 (.u .n)))))))))))
  refine rg 0 (Vf (m := s1.2) (f := (fun (x : Bool) => .bool x)) hj1 (fun x3 hx3 hj1 => ?_) (fun hx3 hj1 => ?_))
  ·cases hj1
   exact hR2 _ _ (li (.u2 (.u (.s (.u (.s (.u (.s (.s (.s (.u4 (.u (.s (.u2 (.u .n)))))))))))))))
  cases hj1
  exact hR2 _ _ (li (.u2 (.u (.s (.u (.s (.u (.s (.s (.s (.u4 (.u (.s (.u2 (.u .n)))))))))))))))
 refine .exit ?_
 exact hR1 _ (sj hs1).symm _ _ (wk [] (.u16 (.u2 (.u .nil))) .nil rfl)
theorem lH (n : Nat) (p0 : Env) (r : Bool) (h : jh n p0 = some r) : aB Tryz.prog 55 [dR p0] [] (.bool r) [] := by
 unfold jh at h
 refine ah true Tryz.func55 rfl (nt Tryz.ntmps55 rfl) fun Q hQ t ht => ?_
 conv at ht => whnf
 subst ht
 refine .r1 fun K1 k1 => (k1 _ _ ?_)
 refine .q fun K2 k2 => .q fun K3 k3 => ?_
 obtain ⟨s1, hj1, h⟩ := ob h
 have hR1 : ∀ t9 h9, Le 0 t9 h9 (.unk :: (.ptr 0 0 :: (u16 (.bool s1 :: (u32 (u16 (u8 (.unk :: [])))))))) [.box [bT p0.carriers, bW p0.names]] → K3 t9 h9 := by
  intro t9 h9 hw
  refine k3 _ _ (AW.le hw ?_)
  clear hw
  refine .ak rfl h (fun hc1 h => ?_) (fun hc1 h => ?_)
  ·refine .r fun K4 k4 => (k4 _ _ ?_)
   refine .ret ?_
   obtain rfl := sj h
   exact hQ _ _ _ rp
  refine .skip (k2 _ _ ?_)
  refine .q fun K5 k5 => .r fun K6 k6 => (aV (l := p0.carriers) (f := aL) ?_)
  refine k6 _ _ (.block ?_)
  obtain ⟨o1, ho1, h⟩ := ob h
  have hR2 : ∀ s3 : Unit, o1 = .nx s3 → ∀ t9 h9, Le 0 t9 h9 (.unk :: (.ptr 0 0 :: (u64 (u8 (u2 []))))) [.box [bT p0.carriers, bW p0.names]] → K5 t9 h9 := by
   intro s3 ho
   subst ho
   dsimp only [LR.el] at h
   intro t9 h9 hw
   refine k5 _ _ (AW.le hw ?_)
   refine .q fun K7 k7 => .r fun K8 k8 => (aV (l := p0.names) (f := aO) ?_)
   refine k8 _ _ (.block ?_)
   obtain ⟨o2, ho2, h⟩ := ob h
   have hR3 : ∀ s5 : Unit, o2 = .nx s5 → ∀ t9 h9, Le 0 t9 h9 (.unk :: (.ptr 0 0 :: (u64 (u8 (u2 []))))) [.box [bT p0.carriers, bW p0.names]] → K7 t9 h9 := by
    intro s5 ho
    subst ho
    dsimp only [LR.el] at h
    intro t9 h9 hw
    refine k7 _ _ (AW.le hw ?_)
    refine .r1 fun K9 k9 => ?_
    obtain ⟨x1, hx1, h⟩ := ob h
    refine cg [] [1] [dR p0] (CV _ _ _ hx1) (.slice (List.map encS x1) (.tip 1 1)) [.tip (List.length x1 * 1)] ?_
    obtain ⟨x2, hx2, h⟩ := ob h
    refine aj (Jb _ _ _ hx2) aM (.cons (.share _ _) .nil) (fun g => by simp) (fun g => rfl) (k9 _ _ ?_)
    refine .ret ?_
    obtain rfl := sj h
    exact hQ _ _ _ rp
   refine .loopS (uT n p0) (fun (s4 : Int) => (.unk :: (.ptr 0 0 :: (u32 (u8 (u4 (u2 (.unk :: (bW p0.names :: (.i (p0.names.length : Int) :: (.i s4 :: (u16 (u8 []))))))))))))) (fun (s4 : Int) => [.box [bT p0.carriers, bW p0.names]]) ho2 (fun _ => rfl) (li (.u (.s (.u16 (.u16 (.u8 (.u4 (.u2 (.u (.s (.s (.s (.u16 (.u8 .n)))))))))))))) ?_
   intro n2 s4 hs2 KL2 hKL2
   unfold uT at hs2
   refine .r fun K10 k10 => (k10 _ _ ?_)
   refine .q fun K11 k11 => (.ak rfl hs2 (fun hc2 hs2 => ?_) (fun hc2 hs2 => ?_))
   ·refine .skip (k11 _ _ ?_)
    refine .q fun K12 k12 => (.block ?_)
    refine .r1 fun K13 k13 => ?_
    obtain ⟨x3, hx3, hs2⟩ := ob hs2
    refine aG (l := p0.names) (f := aO) (cs := [.str ((x3).name), .i (((x3).ty).kind), .str (((x3).ty).name), aH (((x3).ty).kids)]) hx3 (rfl) rfl (k13 _ _ ?_)
    refine .q fun K14 k14 => ?_
    obtain ⟨s6, hj2, hs2⟩ := ob hs2
    have hR4 : ∀ t9 h9, Le 0 t9 h9 (.unk :: (.ptr 0 0 :: (u32 (u8 (u4 (u2 (.unk :: (bW p0.names :: (.i (p0.names.length : Int) :: (.i s4 :: (u16 (u2 (.unk :: (.bool s6 :: (u4 []))))))))))))))) [.box [bT p0.carriers, bW p0.names]] → K14 t9 h9 := by
     intro t9 h9 hw
     refine k14 _ _ (AW.le hw ?_)
     clear hw
     refine .ak rfl hs2 (fun hc3 hs2 => ?_) (fun hc3 hs2 => ?_)
     ·refine .r fun K15 k15 => (k15 _ _ ?_)
      refine .ret ?_
      obtain rfl := sj hs2
      dsimp only [LR.el] at h
      obtain rfl := sj h
      exact hQ _ _ _ rp
     refine .skip (k12 _ _ ?_)
     refine .know 51 0 fun hv1 => (.know 49 0 fun hv2 => ?_)
     refine rg 0 (⟨(s4 + 1), by have := dz hv1; have := fG hv2; have h8 := of_decide_eq_true hc2; exact bC (by omega) (by omega), ?_⟩)
     exact hKL2 _ _ _ hs2 (li (.u (.s (.u16 (.u16 (.u8 (.u4 (.u2 (.u (.s (.s (.s (.u16 (.u8 .n))))))))))))))
    refine rg 0 ?_
    obtain ⟨x4, hx4, hj2⟩ := ob hj2
    refine aj (IY _ _ _ hx4) aM (.cons (.same _) .nil) (fun g => rfl) (fun g => rfl) (aD hj2 (fun hc4 hj2 => ?_) (fun hc4 hj2 => ?_))
    ·cases hj2
     exact t5x0 (hR4 _ _)
    obtain ⟨x5, hx5, hj2⟩ := ob hj2
    refine aj (AO _ _ _ hx5) aM (.cons (.same _) .nil) (fun g => by simp) (fun g => rfl) (aD hj2 (fun hc5 hj2 => ?_) (fun hc5 hj2 => ?_))
    ·cases hj2
     exact t5x0 (hR4 _ _)
    obtain ⟨x6, hx6, hj2⟩ := ob hj2
    refine aj (CU _ _ _ _ hx6) aM (.cons (.same _) (.cons (.same _) .nil)) (fun g => by simp) (fun g => rfl) ?_
    cases hj2
    exact t5x0 (hR4 _ _)
   refine .exit ?_
   exact hR3 _ (sj hs2).symm _ _ (li (.u (.s (.u16 (.u16 (.u16 (.u16 (.u8 (.u2 .n)))))))))
  refine .loopS (uG n p0) (fun (s2 : Int) => (.unk :: (.ptr 0 0 :: (u16 (u2 (bT p0.carriers :: (.i (p0.carriers.length : Int) :: (.i s2 :: (u32 (u16 (u4 (.unk :: [])))))))))))) (fun (s2 : Int) => [.box [bT p0.carriers, bW p0.names]]) ho1 (fun _ => rfl) (li (.u (.s (.u16 (.u2 (.s (.s (.s (.u16 (.u16 (.u16 (.u4 (.u .n))))))))))))) ?_
  intro n1 s2 hs1 KL1 hKL1
  unfold uG at hs1
  refine .r fun K16 k16 => (k16 _ _ ?_)
  refine .q fun K17 k17 => (.ak rfl hs1 (fun hc6 hs1 => ?_) (fun hc6 hs1 => ?_))
  ·refine .skip (k17 _ _ ?_)
   refine .q fun K18 k18 => (.block ?_)
   refine .r1 fun K19 k19 => ?_
   obtain ⟨x7, hx7, hs1⟩ := ob hs1
   refine aG (l := p0.carriers) (f := aL) (cs := [.str ((x7).name), bX ((x7).elems)]) hx7 (rfl) rfl (k19 _ _ ?_)
   refine .q fun K20 k20 => .q fun K21 k21 => ?_
   obtain ⟨s7, hj3, hs1⟩ := ob hs1
   have hR5 : ∀ t9 h9, Le 0 t9 h9 (.unk :: (.ptr 0 0 :: (u2 (.ptr 1 0 :: (u8 (u4 (u2 (.unk :: (bT p0.carriers :: (.i (p0.carriers.length : Int) :: (.i s2 :: (u8 (u4 (.bool s7 :: (u32 (u8 [])))))))))))))))) [.box [bT p0.carriers, bW p0.names], .box [.str x7.name, bX x7.elems]] → K21 t9 h9 := by
    intro t9 h9 hw
    refine k21 _ _ (AW.le hw ?_)
    clear hw
    refine .ak rfl hs1 (fun hc7 hs1 => ?_) (fun hc7 hs1 => ?_)
    ·refine .r fun K22 k22 => (k22 _ _ ?_)
     refine .ret ?_
     obtain rfl := sj hs1
     dsimp only [LR.el] at h
     obtain rfl := sj h
     exact hQ _ _ _ rp
    refine .skip (k20 _ _ ?_)
    refine .r fun K23 k23 => (aV (l := x7.elems) (f := encS) ?_)
    refine k23 _ _ (.block ?_)
    obtain ⟨o3, ho3, hs1⟩ := ob hs1
    have hR6 : ∀ s9 : Unit, o3 = .nx s9 → ∀ t9 h9, Le 0 t9 h9 (.unk :: (.ptr 0 0 :: (u16 (u2 (bT p0.carriers :: (.i (p0.carriers.length : Int) :: (.i s2 :: (u32 (u16 (u4 (.unk :: []))))))))))) [.box [bT p0.carriers, bW p0.names]] → K18 t9 h9 := by
     intro s9 ho
     subst ho
     dsimp only [LR.el] at hs1
     intro t9 h9 hw
     refine k18 _ _ (AW.le hw ?_)
     refine .know 22 0 fun hv3 => (.know 20 0 fun hv4 => ?_)
     refine rg 0 (⟨(s2 + 1), by have := dz hv3; have := fG hv4; have h8 := of_decide_eq_true hc6; exact bC (by omega) (by omega), ?_⟩)
     exact hKL1 _ _ _ hs1 (li (.u (.s (.u16 (.u2 (.s (.s (.s (.u16 (.u16 (.u16 (.u4 (.u .n)))))))))))))
    refine .loopS (nY n x7) (fun (s8 : Int) => (.unk :: (.ptr 0 0 :: (u16 (u2 (bT p0.carriers :: (.i (p0.carriers.length : Int) :: (.i s2 :: (u8 (u4 (u2 (bX x7.elems :: (.i (x7.elems.length : Int) :: (.i s8 :: (u32 (u4 [])))))))))))))))) (fun (s8 : Int) => [.box [bT p0.carriers, bW p0.names]]) ho3 (fun _ => rfl) (wk [some 0] (.u (.c rfl (.u16 (.u2 (.e au (.c2 (.u8 (.u4 (.u2 (.e aY (.c2 (.u32 (.u4 .nil))))))))))))) (.b rfl (.e au (.e aF .nil)) .nil) rfl) ?_
    intro n3 s8 hs3 KL3 hKL3
    unfold nY at hs3
    refine .r fun K24 k24 => (k24 _ _ ?_)
    refine .q fun K25 k25 => (.ak rfl hs3 (fun hc8 hs3 => ?_) (fun hc8 hs3 => ?_))
    ·refine .skip (k25 _ _ ?_)
     refine .q fun K26 k26 => (.block ?_)
     refine .r fun K27 k27 => ?_
     obtain ⟨x8, hx8, hs3⟩ := ob hs3
     refine aG (l := x7.elems) (f := encS) (cs := [.str (x8)]) hx8 (rfl) rfl (k27 _ _ ?_)
     refine .r fun K28 k28 => ?_
     obtain ⟨x9, hx9, hs3⟩ := ob hs3
     refine aj (qw _ _ _ hx9) aM (.cons (.same _) .nil) (fun g => rfl) (fun g => rfl) (k28 _ _ ?_)
     refine .ak rfl hs3 (fun hc9 hs3 => ?_) (fun hc9 hs3 => ?_)
     ·refine .r fun K29 k29 => (k29 _ _ ?_)
      refine .ret ?_
      obtain rfl := sj hs3
      dsimp only [LR.el] at hs1
      obtain rfl := sj hs1
      dsimp only [LR.el] at h
      obtain rfl := sj h
      exact hQ _ _ _ rp
     refine .skip (k26 _ _ ?_)
     refine .know 39 0 fun hv5 => (.know 37 0 fun hv6 => ?_)
     refine rg 0 (⟨(s8 + 1), by have := dz hv5; have := fG hv6; have h8 := of_decide_eq_true hc8; exact bC (by omega) (by omega), ?_⟩)
     exact hKL3 _ _ _ hs3 (li (.u (.s (.u16 (.u2 (.s (.s (.s (.u8 (.u4 (.u2 (.s (.s (.s (.u16 (.u16 (.u4 .n)))))))))))))))))
    refine .exit ?_
    exact hR6 _ (sj hs3).symm _ _ (li (.u (.s (.u16 (.u2 (.s (.s (.s (.u16 (.u16 (.u16 (.u4 (.u .n)))))))))))))
   refine rg 0 ?_
   obtain ⟨x10, hx10, hj3⟩ := ob hj3
   refine aj (qw _ _ _ hx10) aM (.cons (.same _) .nil) (fun g => rfl) (fun g => rfl) (aD hj3 (fun hc10 hj3 => ?_) (fun hc10 hj3 => ?_))
   ·cases hj3
    exact hR5 _ _ (li (.u (.s (.u2 (.s (.u8 (.u4 (.u2 (.u (.s (.s (.s (.u8 (.u4 (.s (.u16 (.u16 (.u8 .n))))))))))))))))))
   refine aV (l := x7.elems) (f := encS) ?_
   cases hj3
   exact hR5 _ _ (li (.u (.s (.u2 (.s (.u8 (.u4 (.u2 (.u (.s (.s (.s (.u8 (.u4 (.s (.u16 (.u16 (.u8 .n))))))))))))))))))
  refine .exit ?_
  exact hR2 _ (sj hs1).symm _ _ (li (.u (.s (.u16 (.u16 (.u16 (.u16 (.u8 (.u2 .n)))))))))
 refine rg 0 (aV (l := p0.carriers) (f := aL) ?_)
 refine aD hj1 (fun hc11 hj1 => ?_) (fun hc11 hj1 => ?_)
 ·cases hj1
  exact hR1 _ _ (li (.u (.s (.u16 (.s (.u16 (.u16 (.u16 (.u8 (.u .n))))))))))
 refine aV (l := p0.names) (f := aO) ?_
 cases hj1
 exact hR1 _ _ (li (.u (.s (.u16 (.s (.u16 (.u16 (.u16 (.u8 (.u .n))))))))))
theorem ahF (n : Nat) (p0 : Int) (r : Int × Bool) (h : IZ n p0 = some r) : aB Tryz.prog 254 [.i p0] [] (.aW [.i r.1, .bool r.2]) [] := by
 unfold IZ at h
 refine ah true Tryz.func254 rfl (nt Tryz.ntmps254 rfl) fun Q hQ t ht => ?_
 conv at ht => whnf
 subst ht
 refine .r fun K1 k1 => (k1 _ _ ?_)
 refine .q fun K2 k2 => (.block ?_)
 refine .q fun K3 k3 => ?_
 obtain ⟨s1, hj1, h⟩ := ob h
 have hR1 : ∀ t9 h9, Le 0 t9 h9 (.i p0 :: (u2 (.unk :: (.bool s1 :: (u32 (.unk :: [])))))) [] → K3 t9 h9 := by
  intro t9 h9 hw
  refine k3 _ _ (AW.le hw ?_)
  clear hw
  refine .ak rfl h (fun hc1 h => ?_) (fun hc1 h => ?_)
  ·refine .r fun K4 k4 => (k4 _ _ ?_)
   refine .ret ?_
   obtain rfl := sj h
   exact hQ _ _ _ rp
  refine .q fun K5 k5 => ?_
  obtain ⟨s2, hj2, h⟩ := ob h
  have hR2 : ∀ t9 h9, Le 0 t9 h9 (.i p0 :: (u8 (u4 (u2 (.bool s2 :: (u16 (u4 (u2 [])))))))) [] → K5 t9 h9 := by
   intro t9 h9 hw
   refine k5 _ _ (AW.le hw ?_)
   clear hw
   refine .ak rfl h (fun hc2 h => ?_) (fun hc2 h => ?_)
   ·refine .r fun K6 k6 => (k6 _ _ ?_)
    refine .ret ?_
    obtain rfl := sj h
    exact hQ _ _ _ rp
   refine .r fun K7 k7 => (k7 _ _ ?_)
   refine .ak rfl h (fun hc3 h => ?_) (fun hc3 h => ?_)
   ·refine .r fun K8 k8 => (k8 _ _ ?_)
    refine .ret ?_
    obtain rfl := sj h
    exact hQ _ _ _ rp
   refine .q fun K9 k9 => ?_
   obtain ⟨s3, hj3, h⟩ := ob h
   have hR3 : ∀ t9 h9, Le 0 t9 h9 (u16 (u8 (u4 (u2 (.unk :: (.bool s3 :: (u4 (u2 [])))))))) [] → K9 t9 h9 := by
    intro t9 h9 hw
    refine k9 _ _ (AW.le hw ?_)
    clear hw
    refine .ak rfl h (fun hc4 h => ?_) (fun hc4 h => ?_)
    ·refine .r fun K10 k10 => (k10 _ _ ?_)
     refine .ret ?_
     obtain rfl := sj h
     exact hQ _ _ _ rp
    refine .skip (k2 _ _ ?_)
    refine .r fun K11 k11 => (k11 _ _ ?_)
    refine .ret ?_
    obtain rfl := sj h
    exact hQ _ _ _ rp
   refine rg 0 (aD hj3 (fun hc5 hj3 => ?_) (fun hc5 hj3 => ?_))
   ·cases hj3
    exact hR3 _ _ (li (.u16 (.u8 (.u4 (.u2 (.u (.s (.u4 (.u2 .n)))))))))
   cases hj3
   exact hR3 _ _ (li (.u16 (.u8 (.u4 (.u2 (.u (.s (.u4 (.u2 .n)))))))))
  refine .r fun K12 k12 => (k12 _ _ ?_)
  refine .ak rfl hj2 (fun hc6 hj2 => ?_) (fun hc6 hj2 => ?_)
  ·refine .skip ?_
   cases hj2
   exact hR2 _ _ (li (.s (.u8 (.u4 (.u2 (.s (.u16 (.u4 (.u2 .n)))))))))
  refine .r fun K13 k13 => (k13 _ _ ?_)
  refine .ak rfl hj2 (fun hc7 hj2 => ?_) (fun hc7 hj2 => ?_)
  ·refine .skip ?_
   cases hj2
   exact hR2 _ _ (li (.s (.u8 (.u4 (.u2 (.s (.u16 (.u4 (.u2 .n)))))))))
  refine .q fun K14 k14 => ?_
  obtain ⟨s4, hj4, hj2⟩ := ob hj2
  have hR4 : ∀ t9 h9, Le 0 t9 h9 (.i p0 :: (u8 (u4 (u2 (.bool s4 :: (u16 (u4 (u2 [])))))))) [] → K14 t9 h9 := by
   intro t9 h9 hw
   refine k14 _ _ (AW.le hw ?_)
   clear hw
   refine .ak rfl hj2 (fun hc8 hj2 => ?_) (fun hc8 hj2 => ?_)
   ·refine .skip ?_
    cases hj2
    exact hR2 _ _ (li (.s (.u8 (.u4 (.u2 (.s (.u16 (.u4 (.u2 .n)))))))))
   refine rg 0 ?_
   cases hj2
   exact hR2 _ _ (li (.s (.u8 (.u4 (.u2 (.s (.u16 (.u4 (.u2 .n)))))))))
  refine rg 0 (aD hj4 (fun hc9 hj4 => ?_) (fun hc9 hj4 => ?_))
  ·cases hj4
   exact hR4 _ _ (li (.s (.u8 (.u4 (.u2 (.s (.u16 (.u4 (.u2 .n)))))))))
  cases hj4
  exact hR4 _ _ (li (.s (.u8 (.u4 (.u2 (.s (.u16 (.u4 (.u2 .n)))))))))
 refine .r fun K15 k15 => (k15 _ _ ?_)
 refine .ak rfl hj1 (fun hc10 hj1 => ?_) (fun hc10 hj1 => ?_)
 ·refine .skip ?_
  cases hj1
  exact hR1 _ _ (li (.s (.u2 (.u (.s (.u16 (.u16 (.u .n))))))))
 refine .r fun K16 k16 => (k16 _ _ ?_)
 refine .ak rfl hj1 (fun hc11 hj1 => ?_) (fun hc11 hj1 => ?_)
 ·refine .skip ?_
  cases hj1
  exact hR1 _ _ (li (.s (.u2 (.u (.s (.u16 (.u16 (.u .n))))))))
 refine .r fun K17 k17 => (k17 _ _ ?_)
 refine .ak rfl hj1 (fun hc12 hj1 => ?_) (fun hc12 hj1 => ?_)
 ·refine .skip ?_
  cases hj1
  exact hR1 _ _ (li (.s (.u2 (.u (.s (.u16 (.u16 (.u .n))))))))
 refine .r fun K18 k18 => (k18 _ _ ?_)
 refine .ak rfl hj1 (fun hc13 hj1 => ?_) (fun hc13 hj1 => ?_)
 ·refine .skip ?_
  cases hj1
  exact hR1 _ _ (li (.s (.u2 (.u (.s (.u16 (.u16 (.u .n))))))))
 refine rg 0 ?_
 cases hj1
 exact hR1 _ _ (li (.s (.u2 (.u (.s (.u16 (.u16 (.u .n))))))))
theorem ag7 (n : Nat) (p0 : Str) (r : Bool) (h : JW n p0 = some r) : aB Tryz.prog 255 [.str p0] [] (.bool r) [] := by
 unfold JW at h
 refine ah true Tryz.func255 rfl (nt Tryz.ntmps255 rfl) fun Q hQ t ht => ?_
 conv at ht => whnf
 subst ht
 refine .r fun K1 k1 => (k1 _ _ ?_)
 refine .r fun K2 k2 => ?_
 obtain ⟨x1, hx1, h⟩ := ob h
 refine aj (FL _ _ _ _ hx1) aM (.cons (.same _) (.cons (.same _) .nil)) (fun g => rfl) (fun g => rfl) ?_
 obtain ⟨x2, hx2, h⟩ := ob h
 refine aj (qw _ _ _ hx2) aM (.cons (.same _) .nil) (fun g => rfl) (fun g => rfl) (k2 _ _ ?_)
 refine .ret ?_
 obtain rfl := sj h
 exact hQ _ _ _ rp
theorem afx (n : Nat) (p0 : Int) (r : Bool) (h : BN n p0 = some r) : aB Tryz.prog 256 [.i p0] [] (.bool r) [] := by
 unfold BN at h
 refine ah true Tryz.func256 rfl (nt Tryz.ntmps256 rfl) fun Q hQ t ht => ?_
 conv at ht => whnf
 subst ht
 refine .r fun K1 k1 => (k1 _ _ ?_)
 refine .q fun K2 k2 => ?_
 obtain ⟨s1, hj1, h⟩ := ob h
 have hR1 : ∀ t9 h9, Le 0 t9 h9 (u2 (.bool s1 :: (u8 (u4 (u2 []))))) [] → K2 t9 h9 := by
  intro t9 h9 hw
  refine k2 _ _ (AW.le hw ?_)
  clear hw
  refine .ret ?_
  obtain rfl := sj h
  exact hQ _ _ _ rp
 refine rg 0 (aD hj1 (fun hc1 hj1 => ?_) (fun hc1 hj1 => ?_))
 ·cases hj1
  exact hR1 _ _ (li (.u2 (.s (.u8 (.u4 (.u2 .n))))))
 refine aD hj1 (fun hc2 hj1 => ?_) (fun hc2 hj1 => ?_)
 ·cases hj1
  exact hR1 _ _ (li (.u2 (.s (.u8 (.u4 (.u2 .n))))))
 refine aD hj1 (fun hc3 hj1 => ?_) (fun hc3 hj1 => ?_)
 ·cases hj1
  exact hR1 _ _ (li (.u2 (.s (.u8 (.u4 (.u2 .n))))))
 cases hj1
 exact hR1 _ _ (li (.u2 (.s (.u8 (.u4 (.u2 .n))))))
theorem Zo (n : Nat) (p0 : Ty) (r : Bool) (h : Bz n p0 = some r) : aB Tryz.prog 257 [bn p0] [] (.bool r) [] := by
 unfold Bz at h
 refine ah true Tryz.func257 rfl (nt Tryz.ntmps257 rfl) fun Q hQ t ht => ?_
 conv at ht => whnf
 subst ht
 refine .r1 fun K1 k1 => (k1 _ _ ?_)
 refine .q fun K2 k2 => ?_
 obtain ⟨s1, hj1, h⟩ := ob h
 have hR1 : ∀ t9 h9, Le 0 t9 h9 (u2 (.bool s1 :: (u8 (u4 (u2 []))))) [] → K2 t9 h9 := by
  intro t9 h9 hw
  refine k2 _ _ (AW.le hw ?_)
  clear hw
  refine .ret ?_
  obtain rfl := sj h
  exact hQ _ _ _ rp
 refine rg 0 (aD hj1 (fun hc1 hj1 => ?_) (fun hc1 hj1 => ?_))
 ·refine aD hj1 (fun hc2 hj1 => ?_) (fun hc2 hj1 => ?_)
  ·refine aV (l := p0.kids) (f := aI) ?_
   cases hj1
   exact hR1 _ _ (wk [] (.u2 (.c rfl (.u8 (.u4 (.u2 .nil))))) .nil rfl)
  cases hj1
  exact hR1 _ _ (wk [] (.u2 (.c rfl (.u8 (.u4 (.u2 .nil))))) .nil rfl)
 cases hj1
 exact hR1 _ _ (wk [] (.u2 (.c rfl (.u8 (.u4 (.u2 .nil))))) .nil rfl)
theorem ad7 (n : Nat) (p0 : Tm) (r : Bool) (h : EF n p0 = some r) : aB Tryz.prog 195 [bD p0] [] (.bool r) [] := by
 unfold EF at h
 refine ah true Tryz.func195 rfl (nt Tryz.ntmps195 rfl) fun Q hQ t ht => ?_
 conv at ht => whnf
 subst ht
 refine .r1 fun K1 k1 => (k1 _ _ ?_)
 refine .r fun K2 k2 => ?_
 obtain ⟨x1, hx1, h⟩ := ob h
 refine aj (ahF _ _ _ hx1) aM (.cons (.same _) .nil) (fun g => rfl) (fun g => by simp) (k2 _ _ ?_)
 refine .q fun K3 k3 => ?_
 obtain ⟨o1, hj1, h⟩ := ob h
 have hR1 : ∀ s1 : Bool, o1 = .nx s1 → ∀ t9 h9, Le 0 t9 h9 (.unk :: (.ptr 0 0 :: (u2 (.bool s1 :: (u64 (u16 (u4 []))))))) [.box [.i p0.op, .str p0.name, .i p0.n, .i p0.ty.kind, .str p0.ty.name, aH p0.ty.kids, aZ p0.kids]] → K3 t9 h9 := by
  intro s1 ho
  subst ho
  dsimp only [LR.el] at h
  intro t9 h9 hw
  refine k3 _ _ (AW.le hw ?_)
  clear hw
  refine .q fun K4 k4 => ?_
  obtain ⟨s2, hj2, h⟩ := ob h
  have hR2 : ∀ t9 h9, Le 0 t9 h9 (.unk :: (.ptr 0 0 :: (u2 (.bool s2 :: (u64 (u16 (u4 []))))))) [.box [.i p0.op, .str p0.name, .i p0.n, .i p0.ty.kind, .str p0.ty.name, aH p0.ty.kids, aZ p0.kids]] → K4 t9 h9 := by
   intro t9 h9 hw
   refine k4 _ _ (AW.le hw ?_)
   clear hw
   refine .q fun K5 k5 => .r fun K6 k6 => (k6 _ _ ?_)
   refine .ak rfl h (fun hc1 h => ?_) (fun hc1 h => ?_)
   ·refine .q fun K7 k7 => ?_
    obtain ⟨s3, hj3, h⟩ := ob h
    have hR3 : ∀ t9 h9, Le 0 t9 h9 (u2 (.bool s3 :: (u64 (u16 (u4 (u2 [])))))) [] → K7 t9 h9 := by
     intro t9 h9 hw
     refine k7 _ _ (AW.le hw ?_)
     clear hw
     refine .ret ?_
     obtain rfl := sj h
     exact hQ _ _ _ rp
    refine rg 0 (aD hj3 (fun hc2 hj3 => ?_) (fun hc2 hj3 => ?_))
    ·refine aD hj3 (fun hc3 hj3 => ?_) (fun hc3 hj3 => ?_)
     ·obtain ⟨x2, hx2, hj3⟩ := ob hj3
      refine aj (rX _ _ _ hx2) aM (.cons (.same _) .nil) (fun g => by simp) (fun g => rfl) ?_
      cases hj3
      exact hR3 _ _ (wk [] (.u2 (.c rfl (.u64 (.u16 (.u4 (.u2 .nil)))))) .nil rfl)
     cases hj3
     exact hR3 _ _ (wk [] (.u2 (.c rfl (.u64 (.u16 (.u4 (.u2 .nil)))))) .nil rfl)
    cases hj3
    exact hR3 _ _ (wk [] (.u2 (.c rfl (.u64 (.u16 (.u4 (.u2 .nil)))))) .nil rfl)
   refine .skip (k5 _ _ ?_)
   refine .q fun K8 k8 => ?_
   obtain ⟨s4, hj4, h⟩ := ob h
   have hR4 : ∀ t9 h9, Le 0 t9 h9 (u2 (.bool s4 :: (u64 (u16 (u4 (u2 [])))))) [] → K8 t9 h9 := by
    intro t9 h9 hw
    refine k8 _ _ (AW.le hw ?_)
    clear hw
    refine .ret ?_
    obtain rfl := sj h
    exact hQ _ _ _ rp
   refine rg 0 (aD hj4 (fun hc4 hj4 => ?_) (fun hc4 hj4 => ?_))
   ·obtain ⟨x3, hx3, hj4⟩ := ob hj4
    refine aj (Zo _ _ _ hx3) aM (.cons (.same _) .nil) (fun g => by simp) (fun g => rfl) ?_
    cases hj4
    exact hR4 _ _ (wk [] (.u2 (.c rfl (.u64 (.u16 (.u4 (.u2 .nil)))))) .nil rfl)
   cases hj4
   exact hR4 _ _ (wk [] (.u2 (.c rfl (.u64 (.u16 (.u4 (.u2 .nil)))))) .nil rfl)
  refine .r fun K9 k9 => (k9 _ _ ?_)
  refine .ak rfl hj2 (fun hc5 hj2 => ?_) (fun hc5 hj2 => ?_)
  ·refine rg 0 (aD hj2 (fun hc6 hj2 => ?_) (fun hc6 hj2 => ?_))
   ·refine aD hj2 (fun hc7 hj2 => ?_) (fun hc7 hj2 => ?_)
    ·cases hj2
     exact hR2 _ _ (li (.u (.s (.u2 (.s (.u16 (.u16 (.u16 (.u16 (.u16 (.u4 .n)))))))))))
    cases hj2
    exact hR2 _ _ (li (.u (.s (.u2 (.s (.u16 (.u16 (.u16 (.u16 (.u16 (.u4 .n)))))))))))
   cases hj2
   exact hR2 _ _ (li (.u (.s (.u2 (.s (.u16 (.u16 (.u16 (.u16 (.u16 (.u4 .n)))))))))))
  refine rg 0 (aD hj2 (fun hc8 hj2 => ?_) (fun hc8 hj2 => ?_))
  ·cases hj2
   exact hR2 _ _ (li (.u (.s (.u2 (.s (.u16 (.u16 (.u16 (.u16 (.u16 (.u4 .n)))))))))))
  cases hj2
  exact hR2 _ _ (li (.u (.s (.u2 (.s (.u16 (.u16 (.u16 (.u16 (.u16 (.u4 .n)))))))))))
 refine .block (.q fun K10 k10 => ?_)
 obtain ⟨s5, hj5, hj1⟩ := ob hj1
 have hR5 : ∀ t9 h9, Le 0 t9 h9 (.unk :: (.ptr 0 0 :: (u8 (u4 (.bool s5 :: (u64 (u8 (u2 [])))))))) [.box [.i p0.op, .str p0.name, .i p0.n, .i p0.ty.kind, .str p0.ty.name, aH p0.ty.kids, aZ p0.kids]] → K10 t9 h9 := by
  intro t9 h9 hw
  refine k10 _ _ (AW.le hw ?_)
  clear hw
  refine .ak rfl hj1 (fun hc9 hj1 => ?_) (fun hc9 hj1 => ?_)
  ·refine .r fun K11 k11 => (k11 _ _ ?_)
   refine .ret ?_
   obtain rfl := sj hj1
   dsimp only [LR.el] at h
   obtain rfl := sj h
   exact hQ _ _ _ rp
  refine .r fun K12 k12 => (k12 _ _ ?_)
  refine .ak rfl hj1 (fun hc10 hj1 => ?_) (fun hc10 hj1 => ?_)
  ·refine rg 0 ?_
   obtain ⟨x4, hx4, hj1⟩ := ob hj1
   refine aj (ag7 _ _ _ hx4) aM (.cons (.same _) .nil) (fun g => rfl) (fun g => rfl) ?_
   exact hR1 _ (sj hj1).symm _ _ (li (.u (.s (.u2 (.s (.u16 (.u16 (.u16 (.u16 (.u16 (.u4 .n)))))))))))
  refine .r fun K13 k13 => ?_
  obtain ⟨x5, hx5, hj1⟩ := ob hj1
  refine aj (afx _ _ _ hx5) aM (.cons (.same _) .nil) (fun g => rfl) (fun g => rfl) (k13 _ _ ?_)
  refine .ak rfl hj1 (fun hc11 hj1 => ?_) (fun hc11 hj1 => ?_)
  ·refine rg 0 ?_
   obtain ⟨x6, hx6, hj1⟩ := ob hj1
   refine aj (qw _ _ _ hx6) aM (.cons (.same _) .nil) (fun g => rfl) (fun g => rfl) ?_
   exact hR1 _ (sj hj1).symm _ _ (li (.u (.s (.u2 (.s (.u16 (.u16 (.u16 (.u16 (.u16 (.u4 .n)))))))))))
  refine rg 0 ?_
  exact hR1 _ (sj hj1).symm _ _ (li (.u (.s (.u2 (.s (.u16 (.u16 (.u16 (.u16 (.u16 (.u4 .n)))))))))))
 refine .r fun K14 k14 => (k14 _ _ ?_)
 refine .ak rfl hj5 (fun hc12 hj5 => ?_) (fun hc12 hj5 => ?_)
 ·refine .skip ?_
  cases hj5
  exact hR5 _ _ (li (.u (.s (.u8 (.u4 (.s (.u16 (.u16 (.u16 (.u16 (.u8 (.u2 .n))))))))))))
 refine .q fun K15 k15 => ?_
 obtain ⟨s6, hj6, hj5⟩ := ob hj5
 have hR6 : ∀ t9 h9, Le 0 t9 h9 (.unk :: (.ptr 0 0 :: (.unk :: (.i x1.1 :: (u8 (u2 (.bool s6 :: (u64 (u8 (u2 [])))))))))) [.box [.i p0.op, .str p0.name, .i p0.n, .i p0.ty.kind, .str p0.ty.name, aH p0.ty.kids, aZ p0.kids]] → K15 t9 h9 := by
  intro t9 h9 hw
  refine k15 _ _ (AW.le hw ?_)
  clear hw
  refine .ak rfl hj5 (fun hc13 hj5 => ?_) (fun hc13 hj5 => ?_)
  ·refine .skip ?_
   cases hj5
   exact hR5 _ _ (li (.u (.s (.u8 (.u4 (.s (.u16 (.u16 (.u16 (.u16 (.u8 (.u2 .n))))))))))))
  refine rg 0 (aD hj5 (fun hc14 hj5 => ?_) (fun hc14 hj5 => ?_))
  ·refine aV (l := p0.kids) (f := aN) ?_
   cases hj5
   exact hR5 _ _ (li (.u (.s (.u8 (.u4 (.s (.u16 (.u16 (.u16 (.u16 (.u8 (.u2 .n))))))))))))
  cases hj5
  exact hR5 _ _ (li (.u (.s (.u8 (.u4 (.s (.u16 (.u16 (.u16 (.u16 (.u8 (.u2 .n))))))))))))
 refine rg 0 (aD hj6 (fun hc15 hj6 => ?_) (fun hc15 hj6 => ?_))
 ·refine aV (l := p0.kids) (f := aN) ?_
  cases hj6
  exact hR6 _ _ (li (.u (.s (.u (.s (.u8 (.u2 (.s (.u16 (.u16 (.u16 (.u16 (.u8 (.u2 .n))))))))))))))
 cases hj6
 exact hR6 _ _ (li (.u (.s (.u (.s (.u8 (.u2 (.s (.u16 (.u16 (.u16 (.u16 (.u8 (.u2 .n))))))))))))))
end Abs
end Go.Proofs.YtiiaccpcoclklaaGreat
