/-
  Contracts of Go functions (printed). Conditions: none.
-/
import Derived.KernelRfl
import Derived.Test.YtkopaeklihhdlaaGreatCEDx01e46e
import Derived.Test.YtkopaeklihhdlaaGreatCDrnx5243a1
set_option linter.unusedSimpArgs false
set_option linter.unusedVariables false
namespace Go.Proofs.YtkopaeklihhdlaaGreat
namespace Abs
open Go Go.Proofs
set_option maxRecDepth 100000
set_option maxHeartbeats 40000000
theorem yN (n : Nat) (p0 : Int) (r : Bool) (h : cmp_isNaN_int n p0 = some r) : ak Tryz.prog 114 [.int .i64 p0] [] (.bool r) [] := by
 unfold cmp_isNaN_int at h
 refine au true Tryz.func114 rfl (by rw [Tryz.ntmps114]; exact Nat.le_of_ble_eq_true rfl) fun Q hQ t ht => ?_
 conv at ht => whnf
 subst ht
 refine .q fun K1 k1 => ?_
 refine rg 0 ?_
 conv => whnf
 refine k1 _ _ ?_
 refine .q fun K2 k2 => ?_
 refine rg 0 ?_
 conv => whnf
 refine k2 _ _ ?_
 refine .ret ?_
 conv => whnf
 have e9 := sj h
 subst e9
 refine hQ _ _ _ (aF aJ (fun g => rfl) ?_)
 conv => whnf
theorem wQ (n : Nat) (p0 : Int) (p1 : Int) (r : Int) (h : cmp_Compare_int n p0 p1 = some r) : ak Tryz.prog 60 [.int .i64 p0, .int .i64 p1] [] (.int .i64 r) [] := by
 unfold cmp_Compare_int at h
 refine au true Tryz.func60 rfl (by rw [Tryz.ntmps60]; exact Nat.le_of_ble_eq_true rfl) fun Q hQ t ht => ?_
 conv at ht => whnf
 subst ht
 refine .q fun K1 k1 => ?_
 refine rg 0 ?_
 conv => whnf
 refine k1 _ _ ?_
 refine .q fun K2 k2 => ?_
 refine rg 0 ?_
 conv => whnf
 refine aD (yN 0 p0 _ rfl) Uc (.cons (.same _) .nil) (fun g => rfl) (fun g => rfl) ?_
 conv => whnf
 refine k2 _ _ ?_
 refine .q fun K3 k3 => ?_
 refine rg 0 ?_
 conv => whnf
 refine aD (yN 0 p1 _ rfl) Uc (.cons (.same _) .nil) (fun g => rfl) (fun g => rfl) ?_
 conv => whnf
 refine k3 _ _ ?_
 refine .q fun K4 k4 => ?_
 refine .q fun K5 k5 => ?_
 refine rg 0 ?_
 conv => whnf
 refine k5 _ _ ?_
 refine .aK rfl h (fun hc1 h => ?_) (fun hc1 h => ?_)
 ·refine .q fun K6 k6 => ?_
  refine .q fun K7 k7 => ?_
  refine rg 0 ?_
  conv => whnf
  refine k7 _ _ ?_
  refine .aK rfl h (fun hc2 h => ?_) (fun hc2 h => ?_)
  ·refine .q fun K8 k8 => ?_
   refine rg 0 ?_
   conv => whnf
   refine k8 _ _ ?_
   refine .ret ?_
   conv => whnf
   have e9 := sj h
   subst e9
   refine hQ _ _ _ (aF aJ (fun g => rfl) ?_)
   conv => whnf
  refine .skip ?_
  conv => whnf
  refine k6 _ _ ?_
  refine .q fun K9 k9 => ?_
  refine rg 0 ?_
  conv => whnf
  refine k9 _ _ ?_
  refine .ret ?_
  conv => whnf
  have e9 := sj h
  subst e9
  refine hQ _ _ _ (aF aJ (fun g => rfl) ?_)
  conv => whnf
 refine .skip ?_
 conv => whnf
 refine k4 _ _ ?_
 refine .q fun K10 k10 => ?_
 refine .q fun K11 k11 => ?_
 refine rg 0 ?_
 conv => whnf
 refine k11 _ _ ?_
 refine .aK rfl h (fun hc3 h => ?_) (fun hc3 h => ?_)
 ·refine .q fun K12 k12 => ?_
  refine rg 0 ?_
  conv => whnf
  refine k12 _ _ ?_
  refine .ret ?_
  conv => whnf
  have e9 := sj h
  subst e9
  refine hQ _ _ _ (aF aJ (fun g => rfl) ?_)
  conv => whnf
 refine .skip ?_
 conv => whnf
 refine k10 _ _ ?_
 refine .q fun K13 k13 => ?_
 refine .q fun K14 k14 => ?_
 refine rg 0 ?_
 conv => whnf
 refine k14 _ _ ?_
 refine .aK rfl h (fun hc4 h => ?_) (fun hc4 h => ?_)
 ·refine .q fun K15 k15 => ?_
  refine rg 0 ?_
  conv => whnf
  refine k15 _ _ ?_
  refine .ret ?_
  conv => whnf
  have e9 := sj h
  subst e9
  refine hQ _ _ _ (aF aJ (fun g => rfl) ?_)
  conv => whnf
 refine .skip ?_
 conv => whnf
 refine k13 _ _ ?_
 refine .q fun K16 k16 => ?_
 refine .q fun K17 k17 => ?_
 refine rg 0 ?_
 conv => whnf
 refine k17 _ _ ?_
 refine .aK rfl h (fun hc5 h => ?_) (fun hc5 h => ?_)
 ·refine .q fun K18 k18 => ?_
  refine rg 0 ?_
  conv => whnf
  refine k18 _ _ ?_
  refine .ret ?_
  conv => whnf
  have e9 := sj h
  subst e9
  refine hQ _ _ _ (aF aJ (fun g => rfl) ?_)
  conv => whnf
 refine .skip ?_
 conv => whnf
 refine k16 _ _ ?_
 refine .q fun K19 k19 => ?_
 refine rg 0 ?_
 conv => whnf
 refine k19 _ _ ?_
 refine .ret ?_
 conv => whnf
 have e9 := sj h
 subst e9
 refine hQ _ _ _ (aF aJ (fun g => rfl) ?_)
 conv => whnf
theorem Nt (n : Nat) (p0 : List Int) (r : Int) (h : xQ n p0 = some r) : ak Tryz.prog 59 [.slice (List.map encI p0) .shared] [] (.int .i64 r) [] := by
 unfold xQ at h
 refine au true Tryz.func59 rfl (by rw [Tryz.ntmps59]; exact Nat.le_of_ble_eq_true rfl) fun Q hQ t ht => ?_
 conv at ht => whnf
 subst ht
 refine .q fun K1 k1 => ?_
 refine rg 0 ?_
 conv => whnf
 refine k1 _ _ ?_
 refine .q fun K2 k2 => ?_
 refine rg 0 ?_
 conv => whnf
 refine k2 _ _ ?_
 refine .q fun K3 k3 => ?_
 refine .q fun K4 k4 => ?_
 refine rg 0 ?_
 conv => whnf
 refine aS (l := p0) (f := encI) ?_
 conv => whnf
 refine k4 _ _ ?_
 refine .block ?_
 obtain ⟨o1, ho1, h⟩ := ob h
 have hR1 : ∀ s2 : Unit, o1 = .nx s2 → ∀ t9 h9, Le 0 t9 h9 (u2 (.unk :: (.int .i64 0 :: (u8 (u4 (u2 [])))))) [] → K3 t9 h9 := by
  intro s2 ho
  subst ho
  dsimp only [LR.el] at h
  intro t9 h9 hw
  refine k3 _ _ (AW.le hw ?_)
  refine .q fun K5 k5 => ?_
  refine rg 0 ?_
  conv => whnf
  refine k5 _ _ ?_
  refine .ret ?_
  conv => whnf
  have e9 := sj h
  subst e9
  refine hQ _ _ _ (aF aJ (fun g => rfl) ?_)
  conv => whnf
 refine .loopS (mY n p0) (fun (s1 : Int) => (u2 (.unk :: (.int .i64 0 :: (u2 (.slice (List.map encI p0) .shared :: (.int .i64 (p0.length : Int) :: (.int .i64 s1 :: (u8 (.unk :: [])))))))))) (fun (s1 : Int) => []) ho1 (fun _ => rfl) (li (.u2 (.u (.s (.u2 (.s (.s (.s (.u8 (.u .n)))))))))) ?_
 intro n1 s1 hs1 KL1 hKL1
 unfold mY at hs1
 refine .q fun K6 k6 => ?_
 refine rg 0 ?_
 conv => whnf
 refine k6 _ _ ?_
 refine .q fun K7 k7 => ?_
 refine .aK rfl hs1 (fun hc1 hs1 => ?_) (fun hc1 hs1 => ?_)
 ·refine .skip ?_
  conv => whnf
  refine k7 _ _ ?_
  refine .q fun K8 k8 => ?_
  refine .block ?_
  refine .q fun K9 k9 => ?_
  refine rg 0 ?_
  conv => whnf
  obtain ⟨x1, hx1, hs1⟩ := ob hs1
  refine aZ (l := p0) (f := encI) (cs := [.int .i64 (x1)]) hx1 (rfl) rfl ?_
  conv => whnf
  refine k9 _ _ ?_
  refine .q fun K10 k10 => ?_
  refine rg 0 ?_
  conv => whnf
  refine k10 _ _ ?_
  refine .aK rfl hs1 (fun hc2 hs1 => ?_) (fun hc2 hs1 => ?_)
  ·refine .q fun K11 k11 => ?_
   refine rg 0 ?_
   conv => whnf
   refine k11 _ _ ?_
   refine .ret ?_
   conv => whnf
   have e9 := sj hs1
   subst e9
   dsimp only [LR.el] at h
   have e9 := sj h
   subst e9
   refine hQ _ _ _ (aF aJ (fun g => rfl) ?_)
   conv => whnf
  refine .skip ?_
  conv => whnf
  refine k8 _ _ ?_
  refine .know 8 0 fun hv1 => ?_
  refine .know 6 0 fun hv2 => ?_
  refine rg 0 ?_
  conv => whnf
  refine ⟨(s1 + 1), by have := fD hv1; have := jY hv2; have h8 := of_decide_eq_true hc1; exact bU (by omega) (by omega), ?_⟩
  conv => whnf
  exact hKL1 _ _ _ hs1 (li (.u2 (.u (.s (.u2 (.s (.s (.s (.u8 (.u .n))))))))))
 refine .exit ?_
 conv => whnf
 exact hR1 _ (sj hs1).symm _ _ (li (.u2 (.u (.s (.u8 (.u4 (.u2 .n)))))))
abbrev qea (qdn : (List Val) → (List Val) → Option Int) : Prop := ∀ (p0 : List Val) (p1 : List Val) (r : Int), qdn p0 p1 = some r → ak Tryz.prog 62 [.slice (List.map ah p0) .shared, .slice (List.map ah p1) .shared, .func 23 []] [] (.int .i64 r) []
abbrev qbf (qdj : Val → Val → Option Int) : Prop := ∀ (p0 : Val) (p1 : Val) (r : Int), qdj p0 p1 = some r → ak Tryz.prog 23 [.agg [.int .i64 p0.kind, .int .i64 p0.n, .str p0.name, .slice (List.map ah p0.kids) .shared], .agg [.int .i64 p1.kind, .int .i64 p1.n, .str p1.name, .slice (List.map ah p1.kids) .shared]] [] (.int .i64 r) []
theorem tu (n : Nat) (qdn : (List Val) → (List Val) → Option Int) (qdj : Val → Val → Option Int) (qby : qea qdn) (qbt : qbf qdj) (p0 : List Val) (p1 : List Val) (r : Int) (h : fC n qdn qdj p0 p1 = some r) : ak Tryz.prog 62 [.slice (List.map ah p0) .shared, .slice (List.map ah p1) .shared, .func 23 []] [] (.int .i64 r) [] := by
 unfold fC at h
 refine au true Tryz.func62 rfl (by rw [Tryz.ntmps62]; exact Nat.le_of_ble_eq_true rfl) fun Q hQ t ht => ?_
 conv at ht => whnf
 subst ht
 refine .q fun K1 k1 => ?_
 refine rg 0 ?_
 conv => whnf
 refine k1 _ _ ?_
 refine .q fun K2 k2 => ?_
 refine .q fun K3 k3 => ?_
 refine rg 0 ?_
 conv => whnf
 refine aS (l := p0) (f := ah) ?_
 conv => whnf
 refine k3 _ _ ?_
 refine .block ?_
 obtain ⟨o1, ho1, h⟩ := ob h
 have hR1 : ∀ s2 : Unit, o1 = .nx s2 → ∀ t9 h9, Le 0 t9 h9 (.slice (List.map ah p0) .shared :: (.slice (List.map ah p1) .shared :: (u32 (u4 (.unk :: []))))) [] → K2 t9 h9 := by
  intro s2 ho
  subst ho
  dsimp only [LR.el] at h
  intro t9 h9 hw
  refine k2 _ _ (AW.le hw ?_)
  refine .q fun K4 k4 => ?_
  refine .q fun K5 k5 => ?_
  refine rg 0 ?_
  conv => whnf
  refine aS (l := p0) (f := ah) ?_
  conv => whnf
  refine aS (l := p1) (f := ah) ?_
  conv => whnf
  refine k5 _ _ ?_
  refine .aK rfl h (fun hc1 h => ?_) (fun hc1 h => ?_)
  ·refine .q fun K6 k6 => ?_
   refine rg 0 ?_
   conv => whnf
   refine k6 _ _ ?_
   refine .ret ?_
   conv => whnf
   have e9 := sj h
   subst e9
   refine hQ _ _ _ (aF aJ (fun g => rfl) ?_)
   conv => whnf
  refine .skip ?_
  conv => whnf
  refine k4 _ _ ?_
  refine .q fun K7 k7 => ?_
  refine rg 0 ?_
  conv => whnf
  refine k7 _ _ ?_
  refine .ret ?_
  conv => whnf
  have e9 := sj h
  subst e9
  refine hQ _ _ _ (aF aJ (fun g => rfl) ?_)
  conv => whnf
 refine .loopS (cO n qdn qdj p0 p1) (fun (s1 : Int) => (.slice (List.map ah p0) .shared :: (.slice (List.map ah p1) .shared :: (.func 23 [] :: (u8 (.slice (List.map ah p0) .shared :: (.int .i64 (p0.length : Int) :: (.int .i64 s1 :: (u16 (u8 (.unk :: []))))))))))) (fun (s1 : Int) => []) ho1 (fun _ => rfl) (li (.s (.s (.s (.u8 (.s (.s (.s (.u16 (.u8 (.u .n))))))))))) ?_
 intro n1 s1 hs1 KL1 hKL1
 unfold cO at hs1
 refine .q fun K8 k8 => ?_
 refine rg 0 ?_
 conv => whnf
 refine k8 _ _ ?_
 refine .q fun K9 k9 => ?_
 refine .aK rfl hs1 (fun hc2 hs1 => ?_) (fun hc2 hs1 => ?_)
 ·refine .skip ?_
  conv => whnf
  refine k9 _ _ ?_
  refine .q fun K10 k10 => ?_
  refine .block ?_
  refine .q fun K11 k11 => ?_
  refine rg 1 ?_
  conv => whnf
  obtain ⟨x1, hx1, hs1⟩ := ob hs1
  refine aZ (l := p0) (f := ah) (cs := [.int .i64 ((x1).kind), .int .i64 ((x1).n), .str ((x1).name), .slice (List.map ah ((x1).kids)) .shared]) hx1 (bf x1) rfl ?_
  conv => whnf
  refine k11 _ _ ?_
  refine .q fun K12 k12 => ?_
  refine .q fun K13 k13 => ?_
  refine rg 0 ?_
  conv => whnf
  refine aS (l := p1) (f := ah) ?_
  conv => whnf
  refine k13 _ _ ?_
  refine .aK rfl hs1 (fun hc3 hs1 => ?_) (fun hc3 hs1 => ?_)
  ·refine .q fun K14 k14 => ?_
   refine rg 0 ?_
   conv => whnf
   refine k14 _ _ ?_
   refine .ret ?_
   conv => whnf
   have e9 := sj hs1
   subst e9
   dsimp only [LR.el] at h
   have e9 := sj h
   subst e9
   refine hQ _ _ _ (aF aJ (fun g => rfl) ?_)
   conv => whnf
  refine .skip ?_
  conv => whnf
  refine k12 _ _ ?_
  refine .q fun K15 k15 => ?_
  refine rg 1 ?_
  conv => whnf
  obtain ⟨x2, hx2, hs1⟩ := ob hs1
  refine aZ (l := p1) (f := ah) (cs := [.int .i64 ((x2).kind), .int .i64 ((x2).n), .str ((x2).name), .slice (List.map ah ((x2).kids)) .shared]) hx2 (bf x2) rfl ?_
  conv => whnf
  refine k15 _ _ ?_
  refine .q fun K16 k16 => ?_
  refine rg 0 ?_
  conv => whnf
  obtain ⟨x3, hx3, hs1⟩ := ob hs1
  refine aD (qbt _ _ _ hx3) yX (.cons (.same _) (.cons (.same _) .nil)) (fun g => by simp) (fun g => rfl) ?_
  conv => whnf
  refine k16 _ _ ?_
  refine .q fun K17 k17 => ?_
  refine rg 0 ?_
  conv => whnf
  refine k17 _ _ ?_
  refine .aK rfl hs1 (fun hc4 hs1 => ?_) (fun hc4 hs1 => ?_)
  ·refine .q fun K18 k18 => ?_
   refine rg 0 ?_
   conv => whnf
   refine k18 _ _ ?_
   refine .ret ?_
   conv => whnf
   have e9 := sj hs1
   subst e9
   dsimp only [LR.el] at h
   have e9 := sj h
   subst e9
   refine hQ _ _ _ (aF aJ (fun g => rfl) ?_)
   conv => whnf
  refine .skip ?_
  conv => whnf
  refine k10 _ _ ?_
  refine .know 7 0 fun hv1 => ?_
  refine .know 0 0 fun hv2 => ?_
  refine rg 0 ?_
  conv => whnf
  refine ⟨(s1 + 1), by have := fD hv1; have := jY hv2; have h8 := of_decide_eq_true hc2; exact bU (by omega) (by omega), ?_⟩
  conv => whnf
  exact hKL1 _ _ _ hs1 (wk [] (.e aN (.e aN (.cons (.func' .nil) (.u8 (.e aN (.c rfl (.c rfl (.u16 (.u8 (.u .nil)))))))))) .nil rfl)
 refine .exit ?_
 conv => whnf
 exact hR1 _ (sj hs1).symm _ _ (li (.s (.s (.u16 (.u16 (.u4 (.u .n)))))))
theorem BZ (n : Nat) (qdn : (List Val) → (List Val) → Option Int) (qdj : Val → Val → Option Int) (qby : qea qdn) (qbt : qbf qdj) (p0 : Val) (p1 : Val) (r : Int) (h : lX n qdn qdj p0 p1 = some r) : ak Tryz.prog 23 [.agg [.int .i64 p0.kind, .int .i64 p0.n, .str p0.name, .slice (List.map ah p0.kids) .shared], .agg [.int .i64 p1.kind, .int .i64 p1.n, .str p1.name, .slice (List.map ah p1.kids) .shared]] [] (.int .i64 r) [] := by
 unfold lX at h
 refine au true Tryz.func23 rfl (by rw [Tryz.ntmps23]; exact Nat.le_of_ble_eq_true rfl) fun Q hQ t ht => ?_
 conv at ht => whnf
 subst ht
 refine .q fun K1 k1 => ?_
 refine rg 2 ?_
 conv => whnf
 refine k1 _ _ ?_
 refine .q fun K2 k2 => ?_
 refine .q fun K3 k3 => ?_
 refine rg 1 ?_
 conv => whnf
 obtain ⟨x1, hx1, h⟩ := ob h
 refine aD (wQ _ _ _ _ hx1) XJ (.cons (.same _) (.cons (.same _) .nil)) (fun g => rfl) (fun g => rfl) ?_
 conv => whnf
 obtain ⟨x2, hx2, h⟩ := ob h
 refine aD (wQ _ _ _ _ hx2) XJ (.cons (.same _) (.cons (.same _) .nil)) (fun g => rfl) (fun g => rfl) ?_
 conv => whnf
 obtain ⟨x3, hx3, h⟩ := ob h
 refine aD (wN _ _ _ _ hx3) abr (.cons (.same _) (.cons (.same _) .nil)) (fun g => rfl) (fun g => rfl) ?_
 conv => whnf
 refine ⟨List.map encI ([x1, x2, x3]), rfl, ?_⟩
 conv => whnf
 obtain ⟨x4, hx4, h⟩ := ob h
 refine aD (Nt _ _ _ hx4) abC (.cons (.share _ _) .nil) (fun g => by simp) (fun g => rfl) ?_
 conv => whnf
 refine ⟨by kernel_rfl, ?_⟩
 conv => whnf
 refine k3 _ _ ?_
 refine .q fun K4 k4 => ?_
 refine rg 0 ?_
 conv => whnf
 refine k4 _ _ ?_
 refine .aK rfl h (fun hc1 h => ?_) (fun hc1 h => ?_)
 ·refine .q fun K5 k5 => ?_
  refine rg 0 ?_
  conv => whnf
  refine k5 _ _ ?_
  refine .ret ?_
  conv => whnf
  have e9 := sj h
  subst e9
  refine hQ _ _ _ (aF aJ (fun g => rfl) ?_)
  conv => whnf
 refine .skip ?_
 conv => whnf
 refine k2 _ _ ?_
 refine .q fun K6 k6 => ?_
 refine rg 0 ?_
 conv => whnf
 obtain ⟨x5, hx5, h⟩ := ob h
 refine aD (qby _ _ _ hx5) abJ (.cons (.same _) (.cons (.same _) (.cons (.same _) .nil))) (fun g => by simp) (fun g => rfl) ?_
 conv => whnf
 refine k6 _ _ ?_
 refine .ret ?_
 conv => whnf
 have e9 := sj h
 subst e9
 refine hQ _ _ _ (aF aJ (fun g => rfl) ?_)
 conv => whnf
theorem nX (n : Nat) : qea (dI n) ∧ qbf (dG n) := by
 induction n with
 | zero => exact ⟨(fun p0 p1 r h => by unfold dI at h; cases h), (fun p0 p1 r h => by unfold dG at h; cases h)⟩
 | succ n ih =>
  exact ⟨(fun p0 p1 r h => tu n _ _ ih.1 ih.2 p0 p1 r (by unfold dI at h; exact h)), (fun p0 p1 r h => BZ n _ _ ih.1 ih.2 p0 p1 r (by unfold dG at h; exact h))⟩
theorem jK (n : Nat) : qbf (dG n) := (nX n).2
end Abs
end Go.Proofs.YtkopaeklihhdlaaGreat
