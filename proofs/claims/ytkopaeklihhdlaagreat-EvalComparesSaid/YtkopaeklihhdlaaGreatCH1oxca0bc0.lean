/-
  Contracts of Go functions (printed). Conditions: none.
-/
import Derived.KernelRfl
import Derived.Test.YtkopaeklihhdlaaGreatCH1xfa2d8b
import Derived.Test.YtkopaeklihhdlaaGreatCHDox3f8fbe
import Derived.Test.YtkopaeklihhdlaaGreatCE12ox745532
set_option linter.unusedSimpArgs false
set_option linter.unusedVariables false
namespace Go.Proofs.YtkopaeklihhdlaaGreat
namespace Abs
open Go Go.Proofs
set_option maxRecDepth 100000
set_option maxHeartbeats 40000000
abbrev qa9 (qdd : (List Val) → Option (List Val)) : Prop := ∀ (p0 : List Val) (r : List Val), qdd p0 = some r → ak Tryz.prog 65 [.slice (List.map ah p0) .shared] [] (.slice (List.map ah r) .shared) []
abbrev qba (qde : Val → Option Val) : Prop := ∀ (p0 : Val) (r : Val), qde p0 = some r → ak Tryz.prog 54 [.agg [.int .i64 p0.kind, .int .i64 p0.n, .str p0.name, .slice (List.map ah p0.kids) .shared]] [] (.agg [.int .i64 r.kind, .int .i64 r.n, .str r.name, .slice (List.map ah r.kids) .shared]) []
theorem Ga (n : Nat) (qdd : (List Val) → Option (List Val)) (qde : Val → Option Val) (qbn : qa9 qdd) (qbo : qba qde) (p0 : List Val) (r : List Val) (h : oN n qdd qde p0 = some r) : ak Tryz.prog 65 [.slice (List.map ah p0) .shared] [] (.slice (List.map ah r) .shared) [] := by
 unfold oN at h
 refine au true Tryz.func65 rfl (by rw [Tryz.ntmps65]; exact Nat.le_of_ble_eq_true rfl) fun Q hQ t ht => ?_
 conv at ht => whnf
 subst ht
 refine .q fun K1 k1 => ?_
 refine rg 0 ?_
 conv => whnf
 refine k1 _ _ ?_
 refine .q fun K2 k2 => ?_
 refine rg 0 ?_
 conv => whnf
 refine k2 _ _ ?_
 refine .q fun K3 k3 => ?_
 refine .q fun K4 k4 => ?_
 refine rg 0 ?_
 conv => whnf
 refine k4 _ _ ?_
 refine .block ?_
 obtain ⟨o1, ho1, h⟩ := ob h
 have hR1 : ∀ s2 : List Val, o1 = .nx s2 → ∀ t9 h9, Le 0 t9 h9 (u2 (.unk :: (.slice (List.map ah s2) (.tip 0 4) :: (u16 [])))) [.tip (List.length s2 * 4)] → K3 t9 h9 := by
  intro s2 ho
  subst ho
  dsimp only [LR.el] at h
  intro t9 h9 hw
  refine k3 _ _ (AW.le hw ?_)
  refine .q fun K5 k5 => ?_
  refine rg 0 ?_
  conv => whnf
  refine k5 _ _ ?_
  refine .ret ?_
  conv => whnf
  have e9 := sj h
  subst e9
  refine hQ _ _ _ (aF aJ (fun g => by simp) ?_)
  conv => whnf
  try rfl
 refine .loopS (mO n qdd qde p0) (fun (s1 : (List Val) × Int) => (.slice (List.map ah p0) .shared :: (u2 (.slice (List.map ah s1.1) (.tip 0 4) :: (.int .i64 s1.2 :: (u8 (u4 (u2 (.unk :: []))))))))) (fun (s1 : (List Val) × Int) => [.tip (List.length s1.1 * 4)]) ho1 (fun _ => rfl) (wk [none] (.e aN (.u2 (.cons (.nils _ _) (.c rfl (.u8 (.u4 (.u2 (.u .nil)))))))) (.w rfl .nil) rfl) ?_
 intro n1 s1 hs1 KL1 hKL1
 unfold mO at hs1
 refine .q fun K6 k6 => ?_
 refine .q fun K7 k7 => ?_
 refine rg 0 ?_
 conv => whnf
 refine aS (l := p0) (f := ah) ?_
 conv => whnf
 refine k7 _ _ ?_
 refine .aK rfl hs1 (fun hc1 hs1 => ?_) (fun hc1 hs1 => ?_)
 ·refine .skip ?_
  conv => whnf
  refine k6 _ _ ?_
  refine .q fun K8 k8 => ?_
  refine .block ?_
  refine rg 2 ?_
  conv => whnf
  obtain ⟨x1, hx1, hs1⟩ := ob hs1
  refine aZ (l := p0) (f := ah) (cs := [.int .i64 ((x1).kind), .int .i64 ((x1).n), .str ((x1).name), .slice (List.map ah ((x1).kids)) .shared]) hx1 (bf x1) rfl ?_
  conv => whnf
  obtain ⟨x2, hx2, hs1⟩ := ob hs1
  refine aD (qbo _ _ hx2) abB (.cons (.same _) .nil) (fun g => by simp) (fun g => by simp) ?_
  conv => whnf
  refine ⟨List.map ah ([x2]), by simp only [List.map_cons, List.map_nil, bf]; try rfl, ?_⟩
  conv => whnf
  obtain ⟨x3, hx3, hs1⟩ := ob hs1
  refine jV (l := s1.1) (ys := [x2]) (f := ah) hx3 oF rfl rfl rfl ?_
  conv => whnf
  refine k8 _ _ ?_
  refine .know 4 0 fun hv1 => ?_
  refine .know 0 0 fun hv2 => ?_
  refine rg 0 ?_
  conv => whnf
  refine ⟨(s1.2 + 1), by have := fD hv1; have := jY hv2; have h8 := of_decide_eq_true hc1; exact bU (by omega) (by omega), ?_⟩
  conv => whnf
  exact hKL1 _ _ _ hs1 (wk [some 2] (.e aN (.u2 (.cons (.tL (aN _ _) rfl) (.c rfl (.u8 (.u4 (.u2 (.u .nil)))))))) (.t rfl .nil) rfl)
 refine .exit ?_
 conv => whnf
 exact hR1 _ (sj hs1).symm _ _ (li (.u2 (.u (.s (.u16 .n)))))
theorem JH (n : Nat) (qdd : (List Val) → Option (List Val)) (qde : Val → Option Val) (qbn : qa9 qdd) (qbo : qba qde) (p0 : Val) (r : Val) (h : qH n qdd qde p0 = some r) : ak Tryz.prog 54 [.agg [.int .i64 p0.kind, .int .i64 p0.n, .str p0.name, .slice (List.map ah p0.kids) .shared]] [] (.agg [.int .i64 r.kind, .int .i64 r.n, .str r.name, .slice (List.map ah r.kids) .shared]) [] := by
 unfold qH at h
 refine au true Tryz.func54 rfl (by rw [Tryz.ntmps54]; exact Nat.le_of_ble_eq_true rfl) fun Q hQ t ht => ?_
 conv at ht => whnf
 subst ht
 refine .q fun K1 k1 => ?_
 refine rg 2 ?_
 conv => whnf
 refine k1 _ _ ?_
 refine .q fun K2 k2 => ?_
 refine rg 1 ?_
 conv => whnf
 refine k2 _ _ ?_
 refine .q fun K3 k3 => ?_
 refine rg 0 ?_
 conv => whnf
 obtain ⟨x1, hx1, h⟩ := ob h
 refine aD (qbn _ _ hx1) Xx (.cons (.same _) .nil) (fun g => by simp) (fun g => by simp) ?_
 conv => whnf
 refine k3 _ _ ?_
 refine .q fun K4 k4 => ?_
 refine rg 0 ?_
 conv => whnf
 refine k4 _ _ ?_
 refine .ret ?_
 conv => whnf
 have e9 := sj h
 subst e9
 refine hQ _ _ _ (aF aJ (fun g => by simp) ?_)
 conv => whnf
 try rfl
theorem Dk (n : Nat) : qa9 (mo n) ∧ qba (nY n) := by
 induction n with
 | zero => exact ⟨(fun p0 r h => by unfold mo at h; cases h), (fun p0 r h => by unfold nY at h; cases h)⟩
 | succ n ih =>
  exact ⟨(fun p0 r h => Ga n _ _ ih.1 ih.2 p0 r (by unfold mo at h; exact h)), (fun p0 r h => JH n _ _ ih.1 ih.2 p0 r (by unfold nY at h; exact h))⟩
theorem PU (n : Nat) : qa9 (mo n) := (Dk n).1
theorem Sm (n : Nat) (p0 : List Val) (p1 : List Val) (r : List Val) (h : Ck n p0 p1 = some r) : ak Tryz.prog 121 [.slice (List.map ah p0) .shared, .slice (List.map ah p1) .shared] [] (.slice (List.map ah r) .shared) [] := by
 unfold Ck at h
 refine au true Tryz.func121 rfl (by rw [Tryz.ntmps121]; exact Nat.le_of_ble_eq_true rfl) fun Q hQ t ht => ?_
 conv at ht => whnf
 subst ht
 refine .q fun K1 k1 => ?_
 refine rg 0 ?_
 conv => whnf
 refine k1 _ _ ?_
 refine .q fun K2 k2 => ?_
 refine rg 0 ?_
 conv => whnf
 refine k2 _ _ ?_
 refine .q fun K3 k3 => ?_
 refine .block ?_
 obtain ⟨o1, ho1, h⟩ := ob h
 have hR1 : ∀ s2 : List Val, o1 = .nx s2 → ∀ t9 h9, Le 0 t9 h9 (u4 (.unk :: (.slice (List.map ah s2) (.tip 0 4) :: (u32 (u8 (u4 (u2 (.unk :: [])))))))) [.tip (List.length s2 * 4)] → K3 t9 h9 := by
  intro s2 ho
  subst ho
  dsimp only [LR.el] at h
  intro t9 h9 hw
  refine k3 _ _ (AW.le hw ?_)
  refine .q fun K4 k4 => ?_
  refine rg 0 ?_
  conv => whnf
  refine k4 _ _ ?_
  refine .ret ?_
  conv => whnf
  have e9 := sj h
  subst e9
  refine hQ _ _ _ (aF aJ (fun g => by simp) ?_)
  conv => whnf
  try rfl
 refine .loopS (gG n) (fun (s1 : (List Val) × (List Val) × (List Val)) => (.slice (List.map ah s1.1) .shared :: (.slice (List.map ah s1.2.1) .shared :: (u2 (.unk :: (.slice (List.map ah s1.2.2) (.tip 0 4) :: (u32 (u8 (u4 (u2 (.unk :: []))))))))))) (fun (s1 : (List Val) × (List Val) × (List Val)) => [.tip (List.length s1.2.2 * 4)]) ho1 (fun _ => rfl) (wk [none] (.e aN (.e aN (.u2 (.u (.cons (.nils _ _) (.u32 (.u8 (.u4 (.u2 (.u .nil)))))))))) (.w rfl .nil) rfl) ?_
 intro n1 s1 hs1 KL1 hKL1
 unfold gG at hs1
 refine .q fun K5 k5 => ?_
 refine .q fun K6 k6 => ?_
 obtain ⟨s3, hj1, hs1⟩ := ob hs1
 have hR2 : ∀ t9 h9, Le 0 t9 h9 (.slice (List.map ah s1.1) .shared :: (.slice (List.map ah s1.2.1) .shared :: (u2 (.unk :: (.slice (List.map ah s1.2.2) (.tip 0 4) :: (u8 (.bool s3 :: (u32 (u4 (u2 [])))))))))) [.tip (List.length s1.2.2 * 4)] → K6 t9 h9 := by
  intro t9 h9 hw
  refine k6 _ _ (AW.le hw ?_)
  clear hw
  refine .aK rfl hs1 (fun hc1 hs1 => ?_) (fun hc1 hs1 => ?_)
  ·refine .skip ?_
   conv => whnf
   refine k5 _ _ ?_
   refine .block ?_
   refine .q fun K7 k7 => ?_
   refine rg 0 ?_
   conv => whnf
   refine k7 _ _ ?_
   refine .q fun K8 k8 => ?_
   obtain ⟨s4, hj2, hs1⟩ := ob hs1
   have hR3 : ∀ t9 h9, Le 0 t9 h9 (.slice (List.map ah s1.1) .shared :: (.slice (List.map ah s1.2.1) .shared :: (u2 (.unk :: (.slice (List.map ah s1.2.2) (.tip 0 4) :: (.int .i64 s4 :: (u32 (u8 (u4 (u2 [])))))))))) [.tip (List.length s1.2.2 * 4)] → K8 t9 h9 := by
    intro t9 h9 hw
    refine k8 _ _ (AW.le hw ?_)
    clear hw
    refine .q fun K9 k9 => ?_
    obtain ⟨s5, hj3, hs1⟩ := ob hs1
    have hR4 : ∀ t9 h9, Le 0 t9 h9 (.slice (List.map ah s5.1) .shared :: (.slice (List.map ah s1.2.1) .shared :: (u2 (.unk :: (.slice (List.map ah s5.2) (.tip 0 4) :: (.int .i64 s4 :: (u32 (u8 (u4 (u2 [])))))))))) [.tip (List.length s5.2 * 4)] → K9 t9 h9 := by
     intro t9 h9 hw
     refine k9 _ _ (AW.le hw ?_)
     clear hw
     refine .q fun K10 k10 => ?_
     obtain ⟨s6, hj4, hs1⟩ := ob hs1
     have hR5 : ∀ t9 h9, Le 0 t9 h9 (.slice (List.map ah s5.1) .shared :: (.slice (List.map ah s1.2.1) .shared :: (u2 (.unk :: (.slice (List.map ah s6) (.tip 0 4) :: (.int .i64 s4 :: (u32 (u8 (u4 (u2 [])))))))))) [.tip (List.length s6 * 4)] → K10 t9 h9 := by
      intro t9 h9 hw
      refine k10 _ _ (AW.le hw ?_)
      clear hw
      refine .q fun K11 k11 => ?_
      refine rg 0 ?_
      conv => whnf
      refine k11 _ _ ?_
      refine .aK rfl hs1 (fun hc2 hs1 => ?_) (fun hc2 hs1 => ?_)
      ·refine rg 0 ?_
       conv => whnf
       obtain ⟨x1, hx1, hs1⟩ := ob hs1
       refine Jp (l := s1.2.1) (f := ah) hx1 (.int _ _ _) (.none _) oF ?_
       conv => whnf
       exact hKL1 _ _ _ hs1 (li (.s (.s (.u2 (.u (.s (.u16 (.u16 (.u8 (.u4 (.u2 (.u .n))))))))))))
      refine .skip ?_
      conv => whnf
      exact hKL1 _ _ _ hs1 (li (.s (.s (.u2 (.u (.s (.u16 (.u16 (.u8 (.u4 (.u2 (.u .n))))))))))))
     refine .q fun K12 k12 => ?_
     refine rg 0 ?_
     conv => whnf
     refine k12 _ _ ?_
     refine .aK rfl hj4 (fun hc3 hj4 => ?_) (fun hc3 hj4 => ?_)
     ·refine rg 2 ?_
      conv => whnf
      obtain ⟨x2, hx2, hj4⟩ := ob hj4
      refine aZ (l := s1.2.1) (f := ah) (cs := [.int .i64 ((x2).kind), .int .i64 ((x2).n), .str ((x2).name), .slice (List.map ah ((x2).kids)) .shared]) hx2 (bf x2) rfl ?_
      conv => whnf
      refine ⟨List.map ah ([x2]), by simp only [List.map_cons, List.map_nil, bf]; try rfl, ?_⟩
      conv => whnf
      obtain ⟨x3, hx3, hj4⟩ := ob hj4
      refine jV (l := s5.2) (ys := [x2]) (f := ah) hx3 oF rfl rfl rfl ?_
      conv => whnf
      cases hj4
      exact hR5 _ _ (wk [some 2] (.e aN (.e aN (.u2 (.u (.cons (.tL (aN _ _) rfl) (.c rfl (.u32 (.u8 (.u4 (.u2 .nil)))))))))) (.t rfl .nil) rfl)
     refine .skip ?_
     conv => whnf
     cases hj4
     exact hR5 _ _ (li (.s (.s (.u2 (.u (.s (.s (.u16 (.u16 (.u8 (.u4 (.u2 .n))))))))))))
    refine .q fun K13 k13 => ?_
    refine rg 0 ?_
    conv => whnf
    refine k13 _ _ ?_
    refine .aK rfl hj3 (fun hc4 hj3 => ?_) (fun hc4 hj3 => ?_)
    ·refine .q fun K14 k14 => ?_
     refine rg 2 ?_
     conv => whnf
     obtain ⟨x4, hx4, hj3⟩ := ob hj3
     refine aZ (l := s1.1) (f := ah) (cs := [.int .i64 ((x4).kind), .int .i64 ((x4).n), .str ((x4).name), .slice (List.map ah ((x4).kids)) .shared]) hx4 (bf x4) rfl ?_
     conv => whnf
     refine ⟨List.map ah ([x4]), by simp only [List.map_cons, List.map_nil, bf]; try rfl, ?_⟩
     conv => whnf
     obtain ⟨x5, hx5, hj3⟩ := ob hj3
     refine jV (l := s1.2.2) (ys := [x4]) (f := ah) hx5 oF rfl rfl rfl ?_
     conv => whnf
     refine k14 _ _ ?_
     refine rg 0 ?_
     conv => whnf
     obtain ⟨x6, hx6, hj3⟩ := ob hj3
     refine Jp (l := s1.1) (f := ah) hx6 (.int _ _ _) (.none _) oF ?_
     conv => whnf
     cases hj3
     exact hR4 _ _ (wk [some 2] (.e aN (.e aN (.u2 (.u (.cons (.tL (aN _ _) rfl) (.c rfl (.u32 (.u8 (.u4 (.u2 .nil)))))))))) (.t rfl .nil) rfl)
    refine .skip ?_
    conv => whnf
    cases hj3
    exact hR4 _ _ (li (.s (.s (.u2 (.u (.s (.s (.u16 (.u16 (.u8 (.u4 (.u2 .n))))))))))))
   refine .block ?_
   refine .q fun K15 k15 => ?_
   refine rg 0 ?_
   conv => whnf
   refine aS (l := s1.1) (f := ah) ?_
   conv => whnf
   refine k15 _ _ ?_
   refine .aK rfl hj2 (fun hc5 hj2 => ?_) (fun hc5 hj2 => ?_)
   ·refine rg 0 ?_
    conv => whnf
    cases hj2
    exact hR3 _ _ (li (.s (.s (.u2 (.u (.s (.s (.u16 (.u16 (.u8 (.u4 (.u2 .n))))))))))))
   refine .q fun K16 k16 => ?_
   refine rg 0 ?_
   conv => whnf
   refine aS (l := s1.2.1) (f := ah) ?_
   conv => whnf
   refine k16 _ _ ?_
   refine .aK rfl hj2 (fun hc6 hj2 => ?_) (fun hc6 hj2 => ?_)
   ·refine rg 0 ?_
    conv => whnf
    obtain ⟨x7, hx7, hj2⟩ := ob hj2
    refine aZ (l := s1.1) (f := ah) (cs := [.int .i64 ((x7).kind), .int .i64 ((x7).n), .str ((x7).name), .slice (List.map ah ((x7).kids)) .shared]) hx7 (bf x7) rfl ?_
    conv => whnf
    obtain ⟨x8, hx8, hj2⟩ := ob hj2
    refine aZ (l := s1.2.1) (f := ah) (cs := [.int .i64 ((x8).kind), .int .i64 ((x8).n), .str ((x8).name), .slice (List.map ah ((x8).kids)) .shared]) hx8 (bf x8) rfl ?_
    conv => whnf
    obtain ⟨x9, hx9, hj2⟩ := ob hj2
    refine aD (wZ _ _ _ _ hx9) Jf (.cons (.same _) (.cons (.same _) .nil)) (fun g => by simp) (fun g => rfl) ?_
    conv => whnf
    refine ⟨by kernel_rfl, ?_⟩
    conv => whnf
    cases hj2
    exact hR3 _ _ (li (.s (.s (.u2 (.u (.s (.s (.u16 (.u16 (.u8 (.u4 (.u2 .n))))))))))))
   refine .skip ?_
   conv => whnf
   cases hj2
   exact hR3 _ _ (li (.s (.s (.u2 (.u (.s (.s (.u16 (.u16 (.u8 (.u4 (.u2 .n))))))))))))
  refine .exit ?_
  conv => whnf
  exact hR1 _ (sj hs1).symm _ _ (li (.u4 (.u (.s (.u16 (.u16 (.u8 (.u4 (.u2 (.u .n))))))))))
 refine rg 0 ?_
 conv => whnf
 refine aS (l := s1.1) (f := ah) ?_
 conv => whnf
 refine aB hj1 (fun hc7 hj1 => ?_) (fun hc7 hj1 => ?_)
 ·conv => whnf
  cases hj1
  exact hR2 _ _ (li (.s (.s (.u2 (.u (.s (.u8 (.s (.u16 (.u16 (.u4 (.u2 .n))))))))))))
 conv => whnf
 refine aS (l := s1.2.1) (f := ah) ?_
 conv => whnf
 cases hj1
 exact hR2 _ _ (li (.s (.s (.u2 (.u (.s (.u8 (.s (.u16 (.u16 (.u4 (.u2 .n))))))))))))
abbrev qbd (qdh : (List Val) → Option (List Val)) : Prop := ∀ (p0 : List Val) (r : List Val), qdh p0 = some r → ak Tryz.prog 71 [.slice (List.map ah p0) .shared] [] (.slice (List.map ah r) .shared) []
theorem F3 (n : Nat) (qdh : (List Val) → Option (List Val)) (qbr : qbd qdh) (p0 : List Val) (r : List Val) (h : iq n qdh p0 = some r) : ak Tryz.prog 71 [.slice (List.map ah p0) .shared] [] (.slice (List.map ah r) .shared) [] := by
 unfold iq at h
 refine au true Tryz.func71 rfl (by rw [Tryz.ntmps71]; exact Nat.le_of_ble_eq_true rfl) fun Q hQ t ht => ?_
 conv at ht => whnf
 subst ht
 refine .q fun K1 k1 => ?_
 refine rg 0 ?_
 conv => whnf
 refine k1 _ _ ?_
 refine .q fun K2 k2 => ?_
 refine .q fun K3 k3 => ?_
 refine rg 0 ?_
 conv => whnf
 refine aS (l := p0) (f := ah) ?_
 conv => whnf
 refine k3 _ _ ?_
 refine .aK rfl h (fun hc1 h => ?_) (fun hc1 h => ?_)
 ·refine .q fun K4 k4 => ?_
  refine rg 2 ?_
  conv => whnf
  refine ⟨List.map ah ([] : List Val), by simp only [List.map_cons, List.map_nil, bf]; try rfl, ?_⟩
  conv => whnf
  obtain ⟨x1, hx1, h⟩ := ob h
  refine jV (l := ([] : List Val)) (ys := p0) (f := ah) hx1 oF rfl rfl rfl ?_
  conv => whnf
  refine k4 _ _ ?_
  refine .ret ?_
  conv => whnf
  have e9 := sj h
  subst e9
  refine hQ _ _ _ (aF aJ (fun g => by simp) ?_)
  conv => whnf
  try rfl
 refine .skip ?_
 conv => whnf
 refine k2 _ _ ?_
 refine .q fun K5 k5 => ?_
 refine rg 0 ?_
 conv => whnf
 refine aS (l := p0) (f := ah) ?_
 conv => whnf
 refine k5 _ _ ?_
 refine .q fun K6 k6 => ?_
 refine rg 0 ?_
 conv => whnf
 obtain ⟨x2, hx2, h⟩ := ob h
 refine Jp (l := p0) (f := ah) hx2 (.none _) (.int _ _ _) oF ?_
 conv => whnf
 obtain ⟨x3, hx3, h⟩ := ob h
 refine aD (qbr _ _ hx3) QD (.cons (.same _) .nil) (fun g => by simp) (fun g => by simp) ?_
 conv => whnf
 obtain ⟨x4, hx4, h⟩ := ob h
 refine Jp (l := p0) (f := ah) hx4 (.int _ _ _) (.none _) oF ?_
 conv => whnf
 obtain ⟨x5, hx5, h⟩ := ob h
 refine aD (qbr _ _ hx5) QD (.cons (.same _) .nil) (fun g => by simp) (fun g => by simp) ?_
 conv => whnf
 obtain ⟨x6, hx6, h⟩ := ob h
 refine aD (Sm _ _ _ _ hx6) ZR (.cons (.same _) (.cons (.same _) .nil)) (fun g => by simp) (fun g => by simp) ?_
 conv => whnf
 refine ⟨by kernel_rfl, ?_⟩
 conv => whnf
 refine k6 _ _ ?_
 refine .ret ?_
 conv => whnf
 have e9 := sj h
 subst e9
 refine hQ _ _ _ (aF aJ (fun g => by simp) ?_)
 conv => whnf
 try rfl
theorem ND (n : Nat) : qbd (oV n) := by
 induction n with
 | zero => exact (fun p0 r h => by unfold oV at h; cases h)
 | succ n ih =>
  exact (fun p0 r h => F3 n _ ih p0 r (by unfold oV at h; exact h))
theorem Q8 (n : Nat) : qbd (oV n) := (ND n)
theorem Wp (n : Nat) (p0 : List Val) (r : Val) (h : Ef n p0 = some r) : ak Tryz.prog 64 [.slice (List.map ah p0) .shared] [] (.agg [.int .i64 r.kind, .int .i64 r.n, .str r.name, .slice (List.map ah r.kids) .shared]) [] := by
 unfold Ef at h
 refine au true Tryz.func64 rfl (by rw [Tryz.ntmps64]; exact Nat.le_of_ble_eq_true rfl) fun Q hQ t ht => ?_
 conv at ht => whnf
 subst ht
 refine .q fun K1 k1 => ?_
 refine rg 1 ?_
 conv => whnf
 refine k1 _ _ ?_
 refine .q fun K2 k2 => ?_
 refine rg 0 ?_
 conv => whnf
 obtain ⟨x1, hx1, h⟩ := ob h
 refine aD (Q8 _ _ _ hx1) QD (.cons (.same _) .nil) (fun g => by simp) (fun g => by simp) ?_
 conv => whnf
 refine k2 _ _ ?_
 refine .ret ?_
 conv => whnf
 have e9 := sj h
 subst e9
 refine hQ _ _ _ (aF aJ (fun g => by simp) ?_)
 conv => whnf
 try rfl
theorem Og (n : Nat) (p0 : List Val) (r : Val × Int) (h : uT n p0 = some r) : ak Tryz.prog 25 [.slice (List.map ah p0) .shared] [] (.tup [.agg [.int .i64 r.1.kind, .int .i64 r.1.n, .str r.1.name, .slice (List.map ah r.1.kids) .shared], .int .i64 r.2]) [] := by
 unfold uT at h
 refine au true Tryz.func25 rfl (by rw [Tryz.ntmps25]; exact Nat.le_of_ble_eq_true rfl) fun Q hQ t ht => ?_
 conv at ht => whnf
 subst ht
 refine .q fun K1 k1 => ?_
 refine rg 1 ?_
 conv => whnf
 refine k1 _ _ ?_
 refine .q fun K2 k2 => ?_
 refine rg 1 ?_
 conv => whnf
 obtain ⟨x1, hx1, h⟩ := ob h
 refine aD (PU _ _ _ hx1) Xx (.cons (.same _) .nil) (fun g => by simp) (fun g => by simp) ?_
 conv => whnf
 obtain ⟨x2, hx2, h⟩ := ob h
 refine aD (Wp _ _ _ hx2) ab2 (.cons (.same _) .nil) (fun g => by simp) (fun g => by simp) ?_
 conv => whnf
 refine k2 _ _ ?_
 refine .q fun K3 k3 => ?_
 refine .q fun K4 k4 => ?_
 refine rg 0 ?_
 conv => whnf
 refine aS (l := x2.kids) (f := ah) ?_
 conv => whnf
 refine k4 _ _ ?_
 refine .aK rfl h (fun hc1 h => ?_) (fun hc1 h => ?_)
 ·refine .q fun K5 k5 => ?_
  refine rg 0 ?_
  conv => whnf
  refine k5 _ _ ?_
  refine .ret ?_
  conv => whnf
  have e9 := sj h
  subst e9
  refine hQ _ _ _ (aF aJ (fun g => by simp) ?_)
  conv => whnf
  try rfl
 refine .skip ?_
 conv => whnf
 refine k3 _ _ ?_
 refine .q fun K6 k6 => ?_
 refine rg 0 ?_
 conv => whnf
 refine k6 _ _ ?_
 refine .ret ?_
 conv => whnf
 have e9 := sj h
 subst e9
 refine hQ _ _ _ (aF aJ (fun g => by simp) ?_)
 conv => whnf
 try rfl
theorem EA (n : Nat) (p0 : Val) (p1 : Val) (p2 : List Val) (r : Bool) (h : ql n p0 p1 p2 = some r) : ak Tryz.prog 6 [.agg [.int .i64 p0.kind, .int .i64 p0.n, .str p0.name, .slice (List.map ah p0.kids) .shared], .agg [.int .i64 p1.kind, .int .i64 p1.n, .str p1.name, .slice (List.map ah p1.kids) .shared], .slice (List.map ah p2) .shared] [] (.bool r) [] := by
 unfold ql at h
 refine au true Tryz.func6 rfl (by rw [Tryz.ntmps6]; exact Nat.le_of_ble_eq_true rfl) fun Q hQ t ht => ?_
 conv at ht => whnf
 subst ht
 refine .q fun K1 k1 => ?_
 refine rg 2 ?_
 conv => whnf
 refine k1 _ _ ?_
 refine .q fun K2 k2 => ?_
 refine .q fun K3 k3 => ?_
 refine rg 0 ?_
 conv => whnf
 refine aS (l := p2) (f := ah) ?_
 conv => whnf
 refine k3 _ _ ?_
 refine .aK rfl h (fun hc1 h => ?_) (fun hc1 h => ?_)
 ·refine .q fun K4 k4 => ?_
  refine rg 0 ?_
  conv => whnf
  obtain ⟨x1, hx1, h⟩ := ob h
  refine aD (sF _ _ hx1) FB .nil (fun g => rfl) (fun g => rfl) ?_
  conv => whnf
  refine k4 _ _ ?_
  refine .ret ?_
  conv => whnf
  have e9 := sj h
  subst e9
  refine hQ _ _ _ (aF aJ (fun g => rfl) ?_)
  conv => whnf
 refine .skip ?_
 conv => whnf
 refine k2 _ _ ?_
 refine .q fun K5 k5 => ?_
 refine rg 1 ?_
 conv => whnf
 obtain ⟨x2, hx2, h⟩ := ob h
 refine aD (uw _ _ _ hx2) Q6 (.cons (.same _) .nil) (fun g => by simp) (fun g => by simp) ?_
 conv => whnf
 refine k5 _ _ ?_
 refine .q fun K6 k6 => ?_
 refine rg 1 ?_
 conv => whnf
 obtain ⟨x3, hx3, h⟩ := ob h
 refine aD (Og _ _ _ hx3) abV (.cons (.same _) .nil) (fun g => by simp) (fun g => by simp) ?_
 conv => whnf
 refine k6 _ _ ?_
 refine .q fun K7 k7 => ?_
 obtain ⟨s1, hj1, h⟩ := ob h
 have hR1 : ∀ t9 h9, Le 0 t9 h9 (u4 (u2 (.bool s1 :: (u32 (u4 (u2 [])))))) [] → K7 t9 h9 := by
  intro t9 h9 hw
  refine k7 _ _ (AW.le hw ?_)
  clear hw
  refine .ret ?_
  conv => whnf
  have e9 := sj h
  subst e9
  refine hQ _ _ _ (aF aJ (fun g => rfl) ?_)
  conv => whnf
 refine rg 0 ?_
 conv => whnf
 obtain ⟨x4, hx4, hj1⟩ := ob hj1
 refine aD (jK _ _ _ _ hx4) yX (.cons (.same _) (.cons (.same _) .nil)) (fun g => by simp) (fun g => rfl) ?_
 conv => whnf
 obtain ⟨x5, hx5, hj1⟩ := ob hj1
 refine aD (wZ _ _ _ _ hx5) Jf (.cons (.same _) (.cons (.same _) .nil)) (fun g => by simp) (fun g => rfl) ?_
 conv => whnf
 refine aB hj1 (fun hc2 hj1 => ?_) (fun hc2 hj1 => ?_)
 ·conv => whnf
  refine aB hj1 (fun hc3 hj1 => ?_) (fun hc3 hj1 => ?_)
  ·conv => whnf
   obtain ⟨x6, hx6, hj1⟩ := ob hj1
   refine aD (uI _ _ _ _ hx6) JO (.cons (.same _) (.cons (.same _) .nil)) (fun g => by simp) (fun g => rfl) ?_
   conv => whnf
   refine aB hj1 (fun hc4 hj1 => ?_) (fun hc4 hj1 => ?_)
   ·conv => whnf
    obtain ⟨x7, hx7, hj1⟩ := ob hj1
    refine aD (sF _ _ hx7) FB .nil (fun g => rfl) (fun g => rfl) ?_
    conv => whnf
    refine ⟨by kernel_rfl, ?_⟩
    conv => whnf
    cases hj1
    exact hR1 _ _ (wk [] (.u4 (.u2 (.c rfl (.u32 (.u4 (.u2 .nil)))))) .nil rfl)
   conv => whnf
   refine ⟨by kernel_rfl, ?_⟩
   conv => whnf
   cases hj1
   exact hR1 _ _ (wk [] (.u4 (.u2 (.c rfl (.u32 (.u4 (.u2 .nil)))))) .nil rfl)
  conv => whnf
  refine ⟨by kernel_rfl, ?_⟩
  conv => whnf
  cases hj1
  exact hR1 _ _ (wk [] (.u4 (.u2 (.c rfl (.u32 (.u4 (.u2 .nil)))))) .nil rfl)
 conv => whnf
 refine ⟨by kernel_rfl, ?_⟩
 conv => whnf
 cases hj1
 exact hR1 _ _ (wk [] (.u4 (.u2 (.c rfl (.u32 (.u4 (.u2 .nil)))))) .nil rfl)
end Abs
end Go.Proofs.YtkopaeklihhdlaaGreat
