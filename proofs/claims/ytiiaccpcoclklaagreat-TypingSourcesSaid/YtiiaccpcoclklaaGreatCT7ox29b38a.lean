/-
  Contracts of Go functions (printed). Conditions: none.
-/
import Derived.KernelRfl
import Derived.Test.YtiiaccpcoclklaaGreatCT3ox2c7616
set_option linter.unusedSimpArgs false
set_option linter.unusedVariables false
namespace Go.Proofs.YtiiaccpcoclklaaGreat
namespace Abs
open Go Go.Proofs
set_option maxRecDepth 100000
set_option maxHeartbeats 40000000
abbrev qeo (qd1 : (List Tm) → Int → Int → Int → Int → Option (Int × Int)) : Prop := ∀ (p0 : List Tm) (p1 p2 : Int) (p3 p4 : Int) (r : Int × Int), qd1 p0 p1 p2 p3 p4 = some r → aB Tryz.prog 258 [aZ p0, .func 197 [.ptr 0 0, .ptr 2 0]] [.box [.ptr 1 0], .box [.i p1, .i p2, .i p3], .box [.i p4]] (.i r.1) [.box [.ptr 1 0], .box [.i r.2, .i p2, .i p3], .box [.i p4]]
abbrev qek (qdx : (List Tm) → Int → Int → Int → Int → Option (Bool × Int)) : Prop := ∀ (p0 : List Tm) (p1 p2 : Int) (p3 p4 : Int) (r : Bool × Int), qdx p0 p1 p2 p3 p4 = some r → aB Tryz.prog 196 [aZ p0, .func 197 [.ptr 0 0, .ptr 2 0]] [.box [.ptr 1 0], .box [.i p1, .i p2, .i p3], .box [.i p4]] (.bool r.1) [.box [.ptr 1 0], .box [.i r.2, .i p2, .i p3], .box [.i p4]]
abbrev qes (qd4 : Int → Int → Int → Tm → Int → Option (Bool × Int)) : Prop := ∀ (p0 p1 p2 : Int) (p3 : Tm) (p4 : Int) (r : Bool × Int), qd4 p0 p1 p2 p3 p4 = some r → aB Tryz.prog 130 [.ptr 0 0, bD p3, .i p4] [.box [.i p0, .i p1, .i p2]] (.bool r.1) [.box [.i r.2, .i p1, .i p2]]
abbrev qer (qd5 : Tm → Int → Int → Int → Int → Option (Bool × Int)) : Prop := ∀ (p0 : Tm) (p1 p2 : Int) (p3 p4 : Int) (r : Bool × Int), qd5 p0 p1 p2 p3 p4 = some r → aB Tryz.prog 197 [bD p0, .ptr 0 0, .ptr 2 0] [.box [.ptr 1 0], .box [.i p1, .i p2, .i p3], .box [.i p4]] (.bool r.1) [.box [.ptr 1 0], .box [.i r.2, .i p2, .i p3], .box [.i p4]]
theorem G5 (n : Nat) (qd1 : (List Tm) → Int → Int → Int → Int → Option (Int × Int)) (qdx : (List Tm) → Int → Int → Int → Int → Option (Bool × Int)) (qd4 : Int → Int → Int → Tm → Int → Option (Bool × Int)) (qd5 : Tm → Int → Int → Int → Int → Option (Bool × Int)) (qcb : qeo qd1) (qb7 : qek qdx) (qce : qes qd4) (qcf : qer qd5) (p0 : List Tm) (p1 p2 : Int) (p3 p4 : Int) (r : Int × Int) (h : iN n qd1 qdx qd4 qd5 p0 p1 p2 p3 p4 = some r) : aB Tryz.prog 258 [aZ p0, .func 197 [.ptr 0 0, .ptr 2 0]] [.box [.ptr 1 0], .box [.i p1, .i p2, .i p3], .box [.i p4]] (.i r.1) [.box [.ptr 1 0], .box [.i r.2, .i p2, .i p3], .box [.i p4]] := by
 unfold iN at h
 refine ah true Tryz.func258 rfl (nt Tryz.ntmps258 rfl) fun Q hQ t ht => ?_
 conv at ht => whnf
 subst ht
 refine .r fun K1 k1 => (k1 _ _ ?_)
 refine .q fun K2 k2 => .r fun K3 k3 => (aV (l := p0) (f := aN) ?_)
 refine k3 _ _ (.block ?_)
 obtain ⟨o1, ho1, h⟩ := ob h
 have hR1 : ∀ s2 : Int, o1 = .nx s2 → ∀ t9 h9, Le 3 t9 h9 (u16 (u2 (.unk :: []))) [.box [.ptr 1 0], .box [.i s2, .i p2, .i p3], .box [.i p4]] → K2 t9 h9 := by
  intro s2 ho
  subst ho
  dsimp only [LR.el] at h
  intro t9 h9 hw
  refine k2 _ _ (AW.le hw ?_)
  refine .r fun K4 k4 => (k4 _ _ ?_)
  refine .ret ?_
  obtain rfl := sj h
  refine hQ _ _ _ (rI [0, 1, 2] rfl (.cons (rfl) (.cons (rfl) (.cons (rfl) .nil))) ?_)
  exact fin
 refine .loopS (nS n qd1 qdx qd4 qd5 p0 p2 p3 p4) (fun (s1 : Int × Int) => (aZ p0 :: (.func 197 [.ptr 0 0, .ptr 2 0] :: (u4 (.unk :: (.i (p0.length : Int) :: (.i s1.1 :: (u8 (u2 []))))))))) (fun (s1 : Int × Int) => [.box [.ptr 1 0], .box [.i s1.2, .i p2, .i p3], .box [.i p4]]) ho1 (fun _ => rfl) (li (.s (.s (.u4 (.u (.s (.s (.u8 (.u2 .n))))))))) ?_
 intro n1 s1 hs1 KL1 hKL1
 unfold nS at hs1
 refine .r fun K5 k5 => (k5 _ _ ?_)
 refine .q fun K6 k6 => (.ak rfl hs1 (fun hc1 hs1 => ?_) (fun hc1 hs1 => ?_))
 ·refine .skip (k6 _ _ ?_)
  refine .q fun K7 k7 => (.block ?_)
  refine .r fun K8 k8 => (k8 _ _ ?_)
  refine .r fun K9 k9 => ?_
  obtain ⟨x1, hx1, hs1⟩ := ob hs1
  refine aG (l := p0) (f := aN) (cs := [.i ((x1).op), .str ((x1).name), .i ((x1).n), .i (((x1).ty).kind), .str (((x1).ty).name), aH (((x1).ty).kids), aZ ((x1).kids)]) hx1 (aS x1) rfl ?_
  obtain ⟨x2, hx2, hs1⟩ := ob hs1
  refine bZ [0, 1, 2] [] [bD x1, .ptr 0 0, .ptr 2 0] [bD x1, .ptr 0 0, .ptr 2 0] (qcf _ _ _ _ _ _ hx2) aM rfl (.cons (rfl) (.cons (rfl) (.cons (rfl) .nil))) (by simp; try decide) (.cons (.same _) (.cons (.same _) (.cons (.same _) .nil))) (rn := .bool x2.1) (rfl) (Hn := [.box [.ptr 1 0], .box [.i x2.2, .i p2, .i p3], .box [.i p4]]) ((bN (rfl) (bN (rfl) (bN (rfl) rfl)))) (k9 _ _ ?_)
  refine .ak rfl hs1 (fun hc2 hs1 => ?_) (fun hc2 hs1 => ?_)
  ·refine .r fun K10 k10 => (k10 _ _ ?_)
   refine .ret ?_
   obtain rfl := sj hs1
   dsimp only [LR.el] at h
   obtain rfl := sj h
   refine hQ _ _ _ (rI [0, 1, 2] rfl (.cons (rfl) (.cons (rfl) (.cons (rfl) .nil))) ?_)
   exact fin
  refine .skip (k7 _ _ ?_)
  refine .know 5 0 fun hv1 => (.know 0 0 fun hv2 => ?_)
  refine rg 0 (⟨(s1.1 + 1), by have := dz hv1; have := fG hv2; have h8 := of_decide_eq_true hc1; exact bC (by omega) (by omega), ?_⟩)
  exact hKL1 _ _ _ hs1 (li (.s (.s (.u4 (.u (.s (.s (.u8 (.u2 .n)))))))))
 refine .exit ?_
 exact hR1 _ (sj hs1).symm _ _ (li (.u16 (.u2 (.u .n))))
theorem EZ (n : Nat) (qd1 : (List Tm) → Int → Int → Int → Int → Option (Int × Int)) (qdx : (List Tm) → Int → Int → Int → Int → Option (Bool × Int)) (qd4 : Int → Int → Int → Tm → Int → Option (Bool × Int)) (qd5 : Tm → Int → Int → Int → Int → Option (Bool × Int)) (qcb : qeo qd1) (qb7 : qek qdx) (qce : qes qd4) (qcf : qer qd5) (p0 : List Tm) (p1 p2 : Int) (p3 p4 : Int) (r : Bool × Int) (h : ko n qd1 qdx qd4 qd5 p0 p1 p2 p3 p4 = some r) : aB Tryz.prog 196 [aZ p0, .func 197 [.ptr 0 0, .ptr 2 0]] [.box [.ptr 1 0], .box [.i p1, .i p2, .i p3], .box [.i p4]] (.bool r.1) [.box [.ptr 1 0], .box [.i r.2, .i p2, .i p3], .box [.i p4]] := by
 unfold ko at h
 refine ah true Tryz.func196 rfl (nt Tryz.ntmps196 rfl) fun Q hQ t ht => ?_
 conv at ht => whnf
 subst ht
 refine .r fun K1 k1 => (k1 _ _ ?_)
 refine .r fun K2 k2 => ?_
 obtain ⟨x1, hx1, h⟩ := ob h
 refine bZ [0, 1, 2] [] [aZ p0, .func 197 [.ptr 0 0, .ptr 2 0]] [aZ p0, .func 197 [.ptr 0 0, .ptr 2 0]] (qcb _ _ _ _ _ _ hx1) aM rfl (.cons (rfl) (.cons (rfl) (.cons (rfl) .nil))) (by simp; try decide) (.cons (.same _) (.cons (.same _) .nil)) (rn := .i x1.1) (rfl) (Hn := [.box [.ptr 1 0], .box [.i x1.2, .i p2, .i p3], .box [.i p4]]) ((bN (rfl) (bN (rfl) (bN (rfl) rfl)))) (k2 _ _ ?_)
 refine .ret ?_
 obtain rfl := sj h
 refine hQ _ _ _ (rI [0, 1, 2] rfl (.cons (rfl) (.cons (rfl) (.cons (rfl) .nil))) ?_)
 exact fin
theorem JQ (n : Nat) (qd1 : (List Tm) → Int → Int → Int → Int → Option (Int × Int)) (qdx : (List Tm) → Int → Int → Int → Int → Option (Bool × Int)) (qd4 : Int → Int → Int → Tm → Int → Option (Bool × Int)) (qd5 : Tm → Int → Int → Int → Int → Option (Bool × Int)) (qcb : qeo qd1) (qb7 : qek qdx) (qce : qes qd4) (qcf : qer qd5) (p0 p1 p2 : Int) (p3 : Tm) (p4 : Int) (r : Bool × Int) (h : o9 n qd1 qdx qd4 qd5 p0 p1 p2 p3 p4 = some r) : aB Tryz.prog 130 [.ptr 0 0, bD p3, .i p4] [.box [.i p0, .i p1, .i p2]] (.bool r.1) [.box [.i r.2, .i p1, .i p2]] := by
 unfold o9 at h
 refine ah true Tryz.func130 rfl (nt Tryz.ntmps130 rfl) fun Q hQ t ht => ?_
 conv at ht => whnf
 subst ht
 refine .q fun K1 k1 => rg 3 (k1 _ _ ?_)
 refine .q fun K2 k2 => .q fun K3 k3 => ?_
 obtain ⟨s1, hj1, h⟩ := ob h
 have hR1 : ∀ t9 h9, Le 1 t9 h9 (u2 (.unk :: (.ptr 1 0 :: (.ptr 2 0 :: (.ptr 3 0 :: (u8 (.unk :: (.bool s1.1 :: (u4 (.unk :: [])))))))))) [.box [.i s1.2, .i p1, .i p2], .box [.ptr 0 0], .box [.i p3.op, .str p3.name, .i p3.n, .i p3.ty.kind, .str p3.ty.name, aH p3.ty.kids, aZ p3.kids], .box [.i p4]] → K3 t9 h9 := by
  intro t9 h9 hw
  refine k3 _ _ (AW.le hw ?_)
  clear hw
  refine .ak rfl h (fun hc1 h => ?_) (fun hc1 h => ?_)
  ·refine .r fun K4 k4 => (k4 _ _ ?_)
   refine .ret ?_
   obtain rfl := sj h
   exact hQ _ _ _ (rI [0])
  refine .skip (k2 _ _ ?_)
  refine .r fun K5 k5 => ?_
  obtain ⟨x1, hx1, h⟩ := ob h
  refine bZ [1, 0, 3] [] [aZ p3.kids, .func 197 [.ptr 0 0, .ptr 2 0]] [aZ p3.kids, .func 197 [.ptr 1 0, .ptr 3 0]] (qb7 _ _ _ _ _ _ hx1) aM rfl (.cons (rfl) (.cons (rfl) (.cons (rfl) .nil))) (by simp; try decide) (.cons (.same _) (.cons (.same _) .nil)) (rn := .bool x1.1) (rfl) (Hn := [.box [.ptr 0 0], .box [.i x1.2, .i p1, .i p2], .box [.i p4]]) ((bN (rfl) (bN (rfl) (bN (rfl) rfl)))) (k5 _ _ ?_)
  refine .ret ?_
  obtain rfl := sj h
  exact hQ _ _ _ (rI [0])
 refine rg 0 ?_
 obtain ⟨x2, hx2, hj1⟩ := ob hj1
 refine cg [0] [] [.ptr 0 0, .i p4] (FZ _ _ _ _ _ _ hx2) (.bool x2.1) [.box [.i x2.2, .i p1, .i p2]] (aD hj1 (fun hc2 hj1 => ?_) (fun hc2 hj1 => ?_))
 ·cases hj1
  exact hR1 _ _ (li (.u2 (.u (.s (.s (.s (.u8 (.u (.s (.u4 (.u .n)))))))))))
 obtain ⟨x3, hx3, hj1⟩ := ob hj1
 refine aj (ad7 _ _ _ hx3) aM (.cons (.same _) .nil) (fun g => by simp) (fun g => rfl) ?_
 cases hj1
 exact hR1 _ _ (li (.u2 (.u (.s (.s (.s (.u8 (.u (.s (.u4 (.u .n)))))))))))
theorem IE (n : Nat) (qd1 : (List Tm) → Int → Int → Int → Int → Option (Int × Int)) (qdx : (List Tm) → Int → Int → Int → Int → Option (Bool × Int)) (qd4 : Int → Int → Int → Tm → Int → Option (Bool × Int)) (qd5 : Tm → Int → Int → Int → Int → Option (Bool × Int)) (qcb : qeo qd1) (qb7 : qek qdx) (qce : qes qd4) (qcf : qer qd5) (p0 : Tm) (p1 p2 : Int) (p3 p4 : Int) (r : Bool × Int) (h : nL n qd1 qdx qd4 qd5 p0 p1 p2 p3 p4 = some r) : aB Tryz.prog 197 [bD p0, .ptr 0 0, .ptr 2 0] [.box [.ptr 1 0], .box [.i p1, .i p2, .i p3], .box [.i p4]] (.bool r.1) [.box [.ptr 1 0], .box [.i r.2, .i p2, .i p3], .box [.i p4]] := by
 unfold nL at h
 refine ah true Tryz.func197 rfl (nt Tryz.ntmps197 rfl) fun Q hQ t ht => ?_
 conv at ht => whnf
 subst ht
 refine .r1 fun K1 k1 => (k1 _ _ ?_)
 refine .r fun K2 k2 => (⟨(IntKind.wrap .i64 (p4 + 1)), rfl, ?_⟩)
 obtain ⟨x1, hx1, h⟩ := ob h
 refine bZ [1] [] [.ptr 0 0, bD p0, .i (IntKind.wrap .i64 (p4 + 1))] [.ptr 1 0, bD p0, .i (IntKind.wrap .i64 (p4 + 1))] (qce _ _ _ _ _ _ hx1) aM rfl (.cons (rfl) .nil) (by simp; try decide) (.cons (.same _) (.cons (.same _) (.cons (.same _) .nil))) (rn := .bool x1.1) (rfl) (Hn := [.box [.i x1.2, .i p2, .i p3]]) ((bN (rfl) rfl)) (k2 _ _ ?_)
 refine .ret ?_
 obtain rfl := sj h
 refine hQ _ _ _ (rI [0, 1, 2] rfl (.cons (rfl) (.cons (rfl) (.cons (rfl) .nil))) ?_)
 exact fin
theorem qI (n : Nat) : qeo (iF n) ∧ qek (fP n) ∧ qes (iU n) ∧ qer (gG n) := by
 induction n with
 | zero => exact ⟨(fun p0 p1 p2 p3 p4 r h => by unfold iF at h; cases h), (fun p0 p1 p2 p3 p4 r h => by unfold fP at h; cases h), (fun p0 p1 p2 p3 p4 r h => by unfold iU at h; cases h), (fun p0 p1 p2 p3 p4 r h => by unfold gG at h; cases h)⟩
 | succ n ih =>
  exact ⟨(fun p0 p1 p2 p3 p4 r h => G5 n _ _ _ _ ih.1 ih.2.1 ih.2.2.1 ih.2.2.2 p0 p1 p2 p3 p4 r (by unfold iF at h; exact h)), (fun p0 p1 p2 p3 p4 r h => EZ n _ _ _ _ ih.1 ih.2.1 ih.2.2.1 ih.2.2.2 p0 p1 p2 p3 p4 r (by unfold fP at h; exact h)), (fun p0 p1 p2 p3 p4 r h => JQ n _ _ _ _ ih.1 ih.2.1 ih.2.2.1 ih.2.2.2 p0 p1 p2 p3 p4 r (by unfold iU at h; exact h)), (fun p0 p1 p2 p3 p4 r h => IE n _ _ _ _ ih.1 ih.2.1 ih.2.2.1 ih.2.2.2 p0 p1 p2 p3 p4 r (by unfold gG at h; exact h))⟩
theorem Qc (n : Nat) : qes (iU n) := (qI n).2.2.1
theorem Ju (n : Nat) (p0 : Tm) (r : Bool) (h : Ak n p0 = some r) : aB Tryz.prog 66 [bD p0] [] (.bool r) [] := by
 unfold Ak at h
 refine ah true Tryz.func66 rfl (nt Tryz.ntmps66 rfl) fun Q hQ t ht => ?_
 conv at ht => whnf
 subst ht
 refine .r1 fun K1 k1 => (k1 _ _ ?_)
 refine .r1 fun K2 k2 => (k2 _ _ ?_)
 refine .r fun K3 k3 => ?_
 obtain ⟨x1, hx1, h⟩ := ob h
 refine bZ [1] [] [.ptr 0 0, bD p0, .i 1] [.ptr 1 0, bD p0, .i 1] (Qc _ _ _ _ _ _ _ hx1) aM rfl (.cons (rfl) .nil) (by simp; try decide) (.cons (.same _) (.cons (.same _) (.cons (.same _) .nil))) (rn := .bool x1.1) (rfl) (Hn := [.box [.i x1.2, .i 2000, .i 64]]) ((bN (rfl) rfl)) (k3 _ _ ?_)
 refine .ret ?_
 obtain rfl := sj h
 exact hQ _ _ _ rp
theorem jS (n : Nat) (p0 r : Ty) (h : Uu n p0 = some r) : aB Tryz.prog 138 [bn p0] [] (bn r) [] := by
 unfold Uu at h
 refine ah true Tryz.func138 rfl (nt Tryz.ntmps138 rfl) fun Q hQ t ht => ?_
 conv at ht => whnf
 subst ht
 refine .q fun K1 k1 => rg 2 (k1 _ _ ?_)
 refine .r1 fun K2 k2 => (⟨List.map aI ([p0]), by simp only [List.map_cons, List.map_nil, aR]; rfl, ?_⟩)
 refine k2 _ _ (.ret ?_)
 obtain rfl := sj h
 exact hQ _ _ _ rp
theorem Mx (n : Nat) (p0 : Env) (r : List (Str × Ty)) (h : zF n p0 = some r) : aB Tryz.prog 110 [dR p0] [] (.mapr 0) [.mp (iW r)] := by
 unfold zF at h
 refine ah false Tryz.func110 rfl (nt Tryz.ntmps110 rfl) fun Q hQ t ht => ?_
 conv at ht => whnf
 subst ht
 refine .r1 fun K1 k1 => (k1 _ _ ?_)
 refine .r1 fun K2 k2 => (k2 _ _ ?_)
 refine .q fun K3 k3 => .r fun K4 k4 => (aV (l := p0.carriers) (f := aL) ?_)
 refine k4 _ _ (.block ?_)
 obtain ⟨o1, ho1, h⟩ := ob h
 have hR1 : ∀ s2 : List (Str × Ty), o1 = .nx s2 → ∀ t9 h9, Le 0 t9 h9 (.unk :: (.ptr 0 0 :: (.unk :: (.mapr 1 :: (u32 (u16 (.unk :: []))))))) [.box [bT p0.carriers, bW p0.names], .mp (iW s2)] → K3 t9 h9 := by
  intro s2 ho
  subst ho
  dsimp only [LR.el] at h
  intro t9 h9 hw
  refine k3 _ _ (AW.le hw ?_)
  refine .q fun K5 k5 => .r fun K6 k6 => (aV (l := p0.names) (f := aO) ?_)
  refine k6 _ _ (.block ?_)
  obtain ⟨o2, ho2, h⟩ := ob h
  have hR2 : ∀ s4 : List (Str × Ty), o2 = .nx s4 → ∀ t9 h9, Le 0 t9 h9 (u2 (.unk :: (.mapr 0 :: (u32 (u16 (.unk :: [])))))) [.mp (iW s4)] → K5 t9 h9 := by
   intro s4 ho
   subst ho
   dsimp only [LR.el] at h
   intro t9 h9 hw
   refine k5 _ _ (AW.le hw ?_)
   refine .r fun K7 k7 => (k7 _ _ ?_)
   refine .ret ?_
   obtain rfl := sj h
   refine hQ _ _ _ (gF (u2 (.mapr 0 :: (u32 (u16 (u2 []))))) [.mp (iW s4)] (wk [some 0] (.u2 (.c rfl (.u32 (.u16 (.u2 .nil))))) (.old .mT .nil) rfl) (dA dJ [0] rfl (.cons (congrArg AObj.mp (eu (f := bn) (fun g x => by simp) _ _)) .nil) ?_))
   exact fin
  refine .loopS (yu n p0) (fun (s3 : Int × (List (Str × Ty))) => (u2 (.unk :: (.mapr 0 :: (u32 (u4 (bW p0.names :: (.i (p0.names.length : Int) :: (.i s3.1 :: (u8 (u2 []))))))))))) (fun (s3 : Int × (List (Str × Ty))) => [.mp (iW s3.2)]) ho2 (fun _ => rfl) (wk [some 1] (.u2 (.u (.c rfl (.u32 (.u4 (.e aF (.c2 (.u8 (.u2 .nil))))))))) (.old .mT .nil) rfl) ?_
  intro n2 s3 hs2 KL2 hKL2
  unfold yu at hs2
  refine .r fun K8 k8 => (k8 _ _ ?_)
  refine .q fun K9 k9 => (.ak rfl hs2 (fun hc1 hs2 => ?_) (fun hc1 hs2 => ?_))
  ·refine .skip (k9 _ _ ?_)
   refine .q fun K10 k10 => (.block ?_)
   refine .r1 fun K11 k11 => ?_
   obtain ⟨x1, hx1, hs2⟩ := ob hs2
   refine aG (l := p0.names) (f := aO) (cs := [.str ((x1).name), .i (((x1).ty).kind), .str (((x1).ty).name), aH (((x1).ty).kids)]) hx1 (rfl) rfl (k11 _ _ ?_)
   refine rg 0 ?_
   obtain ⟨x2, hx2, hs2⟩ := ob hs2
   refine Oh (m := s3.2) (f := bn) hx2 rfl (k10 _ _ ?_)
   refine .know 42 0 fun hv1 => (.know 40 0 fun hv2 => ?_)
   refine rg 0 (⟨(s3.1 + 1), by have := dz hv1; have := fG hv2; have h8 := of_decide_eq_true hc1; exact bC (by omega) (by omega), ?_⟩)
   exact hKL2 _ _ _ hs2 (wk [some 0] (.u2 (.u (.c rfl (.u32 (.u4 (.e aF (.c2 (.u8 (.u2 .nil))))))))) (.old .mT .nil) rfl)
  refine .exit ?_
  exact hR2 _ (sj hs2).symm _ _ (li (.u2 (.u (.s (.u16 (.u16 (.u16 (.u .n))))))))
 refine .loopS (yE n p0) (fun (s1 : Int × (List (Str × Ty))) => (.unk :: (.ptr 0 0 :: (.unk :: (.mapr 1 :: (u8 (.unk :: (bT p0.carriers :: (.i (p0.carriers.length : Int) :: (.i s1.1 :: (u32 (u4 (.unk :: []))))))))))))) (fun (s1 : Int × (List (Str × Ty))) => [.box [bT p0.carriers, bW p0.names], .mp (iW s1.2)]) ho1 (fun _ => rfl) (li (.u (.s (.u (.s (.u8 (.u (.s (.s (.s (.u16 (.u16 (.u4 (.u .n)))))))))))))) ?_
 intro n1 s1 hs1 KL1 hKL1
 unfold yE at hs1
 refine .r fun K12 k12 => (k12 _ _ ?_)
 refine .q fun K13 k13 => (.ak rfl hs1 (fun hc2 hs1 => ?_) (fun hc2 hs1 => ?_))
 ·refine .skip (k13 _ _ ?_)
  refine .q fun K14 k14 => (.block ?_)
  refine .r1 fun K15 k15 => ?_
  obtain ⟨x3, hx3, hs1⟩ := ob hs1
  refine aG (l := p0.carriers) (f := aL) (cs := [.str ((x3).name), bX ((x3).elems)]) hx3 (rfl) rfl (k15 _ _ ?_)
  refine .r1 fun K16 k16 => (k16 _ _ ?_)
  refine .r fun K17 k17 => (cp (jS 0 (Ty.mk 3 x3.name ([])) _ rfl) aM (.cons (.agg' (.cons (.same _) (.cons (.same _) (.cons (.share _ _) .nil)))) .nil) ?_)
  obtain ⟨x4, hx4, hs1⟩ := ob hs1
  refine Oh (m := s1.2) (f := bn) hx4 rfl (⟨rfl, ?_⟩)
  refine k17 _ _ (.r fun K18 k18 => ?_)
  refine aV (l := x3.elems) (f := encS) (k18 _ _ ?_)
  refine .block ?_
  obtain ⟨o3, ho3, hs1⟩ := ob hs1
  have hR3 : ∀ s6 : List (Str × Ty), o3 = .nx s6 → ∀ t9 h9, Le 0 t9 h9 (.unk :: (.ptr 0 0 :: (.unk :: (.mapr 1 :: (u8 (.unk :: (bT p0.carriers :: (.i (p0.carriers.length : Int) :: (.i s1.1 :: (u32 (u4 (.unk :: [])))))))))))) [.box [bT p0.carriers, bW p0.names], .mp (iW s6)] → K14 t9 h9 := by
   intro s6 ho
   subst ho
   dsimp only [LR.el] at hs1
   intro t9 h9 hw
   refine k14 _ _ (AW.le hw ?_)
   refine .know 15 0 fun hv3 => (.know 13 0 fun hv4 => ?_)
   refine rg 0 (⟨(s1.1 + 1), by have := dz hv3; have := fG hv4; have h8 := of_decide_eq_true hc2; exact bC (by omega) (by omega), ?_⟩)
   exact hKL1 _ _ _ hs1 (li (.u (.s (.u (.s (.u8 (.u (.s (.s (.s (.u16 (.u16 (.u4 (.u .n))))))))))))))
  refine .loopS (oQ n x3) (fun (s5 : Int × (List (Str × Ty))) => (.unk :: (.ptr 0 0 :: (.unk :: (.mapr 1 :: (u2 (.ptr 2 0 :: (u4 (u2 (bT p0.carriers :: (.i (p0.carriers.length : Int) :: (.i s1.1 :: (u8 (u4 (bX x3.elems :: (.i (x3.elems.length : Int) :: (.i s5.1 :: (u16 (u4 (u2 [])))))))))))))))))))) (fun (s5 : Int × (List (Str × Ty))) => [.box [bT p0.carriers, bW p0.names], .mp (iW s5.2), .box [.i 3, .str x3.name, .slice (List.map aI ([] : List Ty)) .nils]]) ho3 (fun _ => rfl) (wk [some 0, some 1, some 3] (.u (.c rfl (.u (.c rfl (.u2 (.c rfl (.u4 (.u2 (.e au (.c2 (.u8 (.u4 (.e aY (.c2 (.u16 (.u4 (.u2 .nil))))))))))))))))) (.b rfl (.e au (.e aF .nil)) (.old .mT (.b rfl (.c2 (.c rfl .nil)) .nil))) rfl) ?_
  intro n3 s5 hs3 KL3 hKL3
  unfold oQ at hs3
  refine .r fun K19 k19 => (k19 _ _ ?_)
  refine .q fun K20 k20 => (.ak rfl hs3 (fun hc3 hs3 => ?_) (fun hc3 hs3 => ?_))
  ·refine .skip (k20 _ _ ?_)
   refine .q fun K21 k21 => (.block ?_)
   refine .r fun K22 k22 => ?_
   obtain ⟨x5, hx5, hs3⟩ := ob hs3
   refine aG (l := x3.elems) (f := encS) (cs := [.str (x5)]) hx5 (rfl) rfl (k22 _ _ ?_)
   refine rg 0 ?_
   obtain ⟨x6, hx6, hs3⟩ := ob hs3
   refine Oh (m := s5.2) (f := bn) hx6 rfl (k21 _ _ ?_)
   refine .know 30 0 fun hv5 => (.know 28 0 fun hv6 => ?_)
   refine rg 0 (⟨(s5.1 + 1), by have := dz hv5; have := fG hv6; have h8 := of_decide_eq_true hc3; exact bC (by omega) (by omega), ?_⟩)
   exact hKL3 _ _ _ hs3 (li (.u (.s (.u (.s (.u2 (.s (.u4 (.u2 (.s (.s (.s (.u8 (.u4 (.s (.s (.s (.u16 (.u4 (.u2 .n))))))))))))))))))))
  refine .exit ?_
  exact hR3 _ (sj hs3).symm _ _ (wk [some 0, some 1] (.u (.c rfl (.u (.c rfl (.u8 (.u (.e au (.c2 (.u32 (.u4 (.u .nil))))))))))) (.b rfl (.e au (.e aF .nil)) (.old .mT .nil)) rfl)
 refine .exit ?_
 exact hR1 _ (sj hs1).symm _ _ (li (.u (.s (.u (.s (.u16 (.u16 (.u16 (.u .n)))))))))
theorem rJ (n : Nat) (r : Ty) (h : Ud n = some r) : aB Tryz.prog 199 [] [] (bn r) [] := by
 unfold Ud at h
 refine ah true Tryz.func199 rfl (nt Tryz.ntmps199 rfl) fun Q hQ t ht => ?_
 conv at ht => whnf
 subst ht
 refine .r1 fun K1 k1 => (k1 _ _ ?_)
 refine .r fun K2 k2 => (k2 _ _ ?_)
 refine .ret ?_
 obtain rfl := sj h
 exact hQ _ _ _ rp
theorem Dl (n : Nat) (p0 : Int) (p1 : Ty) (r : Unit) (h : Yw n p0 p1 = some r) : aB Tryz.prog 198 [.i p0, bn p1] [] (.func 259 [.eptr [.i p1.kind, .str p1.name, aH p1.kids], .eptr [.i p0]]) [] := by
 unfold Yw at h
 refine ah false Tryz.func198 rfl (nt Tryz.ntmps198 rfl) fun Q hQ t ht => ?_
 conv at ht => whnf
 subst ht
 refine .q fun K1 k1 => rg 2 (k1 _ _ ?_)
 refine .r fun K2 k2 => (k2 _ _ ?_)
 refine .ret ?_
 obtain rfl := sj h
 refine hQ _ _ _ (gF (u4 (.func 259 [.eptr [.i p1.kind, .str p1.name, aH p1.kids], .eptr [.i p0]] :: (.unk :: []))) [] (wk [] (.u4 (.cons (.func' (.cons (.zW rfl rfl (.c2 (.e aA .nil))) (.cons (.zW rfl rfl (.c rfl .nil)) .nil))) (.u .nil))) .nil rfl) (dA dJ [] rfl .nil ?_))
 exact fin
theorem vR (n : Nat) (r : Ty) (h : O8 n = some r) : aB Tryz.prog 200 [] [] (bn r) [] := by
 unfold O8 at h
 refine ah true Tryz.func200 rfl (nt Tryz.ntmps200 rfl) fun Q hQ t ht => ?_
 conv at ht => whnf
 subst ht
 refine .r1 fun K1 k1 => (k1 _ _ ?_)
 refine .r fun K2 k2 => (k2 _ _ ?_)
 refine .ret ?_
 obtain rfl := sj h
 exact hQ _ _ _ rp
theorem aha (n : Nat) (r : Unit) (h : acp n = some r) : aB Tryz.prog 203 [.func 204 []] [] (.func 262 [.eptr [.func 204 []]]) [] := by
 unfold acp at h
 refine ah false Tryz.func203 rfl (nt Tryz.ntmps203 rfl) fun Q hQ t ht => ?_
 conv at ht => whnf
 subst ht
 refine .r1 fun K1 k1 => (k1 _ _ ?_)
 refine .r fun K2 k2 => (k2 _ _ ?_)
 refine .ret ?_
 obtain rfl := sj h
 refine hQ _ _ _ (gF (u2 (.func 262 [.eptr [.func 204 []]] :: (.unk :: []))) [] (wk [] (.u2 (.cons (.func' (.cons (.zW rfl rfl (.cons (.func' .nil) .nil)) .nil)) (.u .nil))) .nil rfl) (dA dJ [] rfl .nil ?_))
 exact fin
theorem QK (n : Nat) (r : Unit) (h : JA n = some r) : aB Tryz.prog 208 [.func 209 []] [] (.func 263 [.eptr [.func 209 []]]) [] := by
 unfold JA at h
 refine ah false Tryz.func208 rfl (nt Tryz.ntmps208 rfl) fun Q hQ t ht => ?_
 conv at ht => whnf
 subst ht
 refine .r1 fun K1 k1 => (k1 _ _ ?_)
 refine .r fun K2 k2 => (k2 _ _ ?_)
 refine .ret ?_
 obtain rfl := sj h
 refine hQ _ _ _ (gF (u2 (.func 263 [.eptr [.func 209 []]] :: (.unk :: []))) [] (wk [] (.u2 (.cons (.func' (.cons (.zW rfl rfl (.cons (.func' .nil) .nil)) .nil)) (.u .nil))) .nil rfl) (dA dJ [] rfl .nil ?_))
 exact fin
theorem ac0 (n : Nat) (r : Unit) (h : Um n = some r) : aB Tryz.prog 210 [.func 211 []] [] (.func 264 [.eptr [.func 211 []]]) [] := by
 unfold Um at h
 refine ah false Tryz.func210 rfl (nt Tryz.ntmps210 rfl) fun Q hQ t ht => ?_
 conv at ht => whnf
 subst ht
 refine .r1 fun K1 k1 => (k1 _ _ ?_)
 refine .r fun K2 k2 => (k2 _ _ ?_)
 refine .ret ?_
 obtain rfl := sj h
 refine hQ _ _ _ (gF (u2 (.func 264 [.eptr [.func 211 []]] :: (.unk :: []))) [] (wk [] (.u2 (.cons (.func' (.cons (.zW rfl rfl (.cons (.func' .nil) .nil)) .nil)) (.u .nil))) .nil rfl) (dA dJ [] rfl .nil ?_))
 exact fin
theorem Cy (n : Nat) (p0 : Ty) (r : Unit) (h : Mt n p0 = some r) : aB Tryz.prog 212 [bn p0] [] (.func 265 [.eptr [.i p0.kind, .str p0.name, aH p0.kids]]) [] := by
 unfold Mt at h
 refine ah false Tryz.func212 rfl (nt Tryz.ntmps212 rfl) fun Q hQ t ht => ?_
 conv at ht => whnf
 subst ht
 refine .r1 fun K1 k1 => (k1 _ _ ?_)
 refine .r fun K2 k2 => (k2 _ _ ?_)
 refine .ret ?_
 obtain rfl := sj h
 refine hQ _ _ _ (gF (u2 (.func 265 [.eptr [.i p0.kind, .str p0.name, aH p0.kids]] :: (.unk :: []))) [] (wk [] (.u2 (.cons (.func' (.cons (.zW rfl rfl (.c2 (.e aA .nil))) .nil)) (.u .nil))) .nil rfl) (dA dJ [] rfl .nil ?_))
 exact fin
theorem Oi (n : Nat) (r : Unit) (h : Yu n = some r) : aB Tryz.prog 213 [.func 214 []] [] (.func 266 [.eptr [.func 214 []]]) [] := by
 unfold Yu at h
 refine ah false Tryz.func213 rfl (nt Tryz.ntmps213 rfl) fun Q hQ t ht => ?_
 conv at ht => whnf
 subst ht
 refine .r1 fun K1 k1 => (k1 _ _ ?_)
 refine .r fun K2 k2 => (k2 _ _ ?_)
 refine .ret ?_
 obtain rfl := sj h
 refine hQ _ _ _ (gF (u2 (.func 266 [.eptr [.func 214 []]] :: (.unk :: []))) [] (wk [] (.u2 (.cons (.func' (.cons (.zW rfl rfl (.cons (.func' .nil) .nil)) .nil)) (.u .nil))) .nil rfl) (dA dJ [] rfl .nil ?_))
 exact fin
theorem Zw (n : Nat) (r : Unit) (h : Rh n = some r) : aB Tryz.prog 213 [.func 215 []] [] (.func 266 [.eptr [.func 215 []]]) [] := by
 unfold Rh at h
 refine ah false Tryz.func213 rfl (nt Tryz.ntmps213 rfl) fun Q hQ t ht => ?_
 conv at ht => whnf
 subst ht
 refine .r1 fun K1 k1 => (k1 _ _ ?_)
 refine .r fun K2 k2 => (k2 _ _ ?_)
 refine .ret ?_
 obtain rfl := sj h
 refine hQ _ _ _ (gF (u2 (.func 266 [.eptr [.func 215 []]] :: (.unk :: []))) [] (wk [] (.u2 (.cons (.func' (.cons (.zW rfl rfl (.cons (.func' .nil) .nil)) .nil)) (.u .nil))) .nil rfl) (dA dJ [] rfl .nil ?_))
 exact fin
theorem ad3 (n : Nat) (r : Unit) (h : X5 n = some r) : aB Tryz.prog 217 [.func 214 []] [] (.func 267 [.eptr [.func 214 []]]) [] := by
 unfold X5 at h
 refine ah false Tryz.func217 rfl (nt Tryz.ntmps217 rfl) fun Q hQ t ht => ?_
 conv at ht => whnf
 subst ht
 refine .r1 fun K1 k1 => (k1 _ _ ?_)
 refine .r fun K2 k2 => (k2 _ _ ?_)
 refine .ret ?_
 obtain rfl := sj h
 refine hQ _ _ _ (gF (u2 (.func 267 [.eptr [.func 214 []]] :: (.unk :: []))) [] (wk [] (.u2 (.cons (.func' (.cons (.zW rfl rfl (.cons (.func' .nil) .nil)) .nil)) (.u .nil))) .nil rfl) (dA dJ [] rfl .nil ?_))
 exact fin
theorem Fv (n : Nat) (r : Unit) (h : Rp n = some r) : aB Tryz.prog 217 [.func 215 []] [] (.func 267 [.eptr [.func 215 []]]) [] := by
 unfold Rp at h
 refine ah false Tryz.func217 rfl (nt Tryz.ntmps217 rfl) fun Q hQ t ht => ?_
 conv at ht => whnf
 subst ht
 refine .r1 fun K1 k1 => (k1 _ _ ?_)
 refine .r fun K2 k2 => (k2 _ _ ?_)
 refine .ret ?_
 obtain rfl := sj h
 refine hQ _ _ _ (gF (u2 (.func 267 [.eptr [.func 215 []]] :: (.unk :: []))) [] (wk [] (.u2 (.cons (.func' (.cons (.zW rfl rfl (.cons (.func' .nil) .nil)) .nil)) (.u .nil))) .nil rfl) (dA dJ [] rfl .nil ?_))
 exact fin
theorem aaB (n : Nat) (r : Unit) (h : UM n = some r) : aB Tryz.prog 203 [.func 205 []] [] (.func 262 [.eptr [.func 205 []]]) [] := by
 unfold UM at h
 refine ah false Tryz.func203 rfl (nt Tryz.ntmps203 rfl) fun Q hQ t ht => ?_
 conv at ht => whnf
 subst ht
 refine .r1 fun K1 k1 => (k1 _ _ ?_)
 refine .r fun K2 k2 => (k2 _ _ ?_)
 refine .ret ?_
 obtain rfl := sj h
 refine hQ _ _ _ (gF (u2 (.func 262 [.eptr [.func 205 []]] :: (.unk :: []))) [] (wk [] (.u2 (.cons (.func' (.cons (.zW rfl rfl (.cons (.func' .nil) .nil)) .nil)) (.u .nil))) .nil rfl) (dA dJ [] rfl .nil ?_))
 exact fin
theorem Nh (n : Nat) (r : Unit) (h : Hu n = some r) : aB Tryz.prog 208 [.func 221 []] [] (.func 263 [.eptr [.func 221 []]]) [] := by
 unfold Hu at h
 refine ah false Tryz.func208 rfl (nt Tryz.ntmps208 rfl) fun Q hQ t ht => ?_
 conv at ht => whnf
 subst ht
 refine .r1 fun K1 k1 => (k1 _ _ ?_)
 refine .r fun K2 k2 => (k2 _ _ ?_)
 refine .ret ?_
 obtain rfl := sj h
 refine hQ _ _ _ (gF (u2 (.func 263 [.eptr [.func 221 []]] :: (.unk :: []))) [] (wk [] (.u2 (.cons (.func' (.cons (.zW rfl rfl (.cons (.func' .nil) .nil)) .nil)) (.u .nil))) .nil rfl) (dA dJ [] rfl .nil ?_))
 exact fin
theorem NG (n : Nat) (r : Unit) (h : Hq n = some r) : aB Tryz.prog 208 [.func 222 []] [] (.func 263 [.eptr [.func 222 []]]) [] := by
 unfold Hq at h
 refine ah false Tryz.func208 rfl (nt Tryz.ntmps208 rfl) fun Q hQ t ht => ?_
 conv at ht => whnf
 subst ht
 refine .r1 fun K1 k1 => (k1 _ _ ?_)
 refine .r fun K2 k2 => (k2 _ _ ?_)
 refine .ret ?_
 obtain rfl := sj h
 refine hQ _ _ _ (gF (u2 (.func 263 [.eptr [.func 222 []]] :: (.unk :: []))) [] (wk [] (.u2 (.cons (.func' (.cons (.zW rfl rfl (.cons (.func' .nil) .nil)) .nil)) (.u .nil))) .nil rfl) (dA dJ [] rfl .nil ?_))
 exact fin
theorem XJ (n : Nat) (r : Unit) (h : OV n = some r) : aB Tryz.prog 210 [.func 223 []] [] (.func 264 [.eptr [.func 223 []]]) [] := by
 unfold OV at h
 refine ah false Tryz.func210 rfl (nt Tryz.ntmps210 rfl) fun Q hQ t ht => ?_
 conv at ht => whnf
 subst ht
 refine .r1 fun K1 k1 => (k1 _ _ ?_)
 refine .r fun K2 k2 => (k2 _ _ ?_)
 refine .ret ?_
 obtain rfl := sj h
 refine hQ _ _ _ (gF (u2 (.func 264 [.eptr [.func 223 []]] :: (.unk :: []))) [] (wk [] (.u2 (.cons (.func' (.cons (.zW rfl rfl (.cons (.func' .nil) .nil)) .nil)) (.u .nil))) .nil rfl) (dA dJ [] rfl .nil ?_))
 exact fin
theorem Wy (n : Nat) (r : Unit) (h : O5 n = some r) : aB Tryz.prog 210 [.func 224 []] [] (.func 264 [.eptr [.func 224 []]]) [] := by
 unfold O5 at h
 refine ah false Tryz.func210 rfl (nt Tryz.ntmps210 rfl) fun Q hQ t ht => ?_
 conv at ht => whnf
 subst ht
 refine .r1 fun K1 k1 => (k1 _ _ ?_)
 refine .r fun K2 k2 => (k2 _ _ ?_)
 refine .ret ?_
 obtain rfl := sj h
 refine hQ _ _ _ (gF (u2 (.func 264 [.eptr [.func 224 []]] :: (.unk :: []))) [] (wk [] (.u2 (.cons (.func' (.cons (.zW rfl rfl (.cons (.func' .nil) .nil)) .nil)) (.u .nil))) .nil rfl) (dA dJ [] rfl .nil ?_))
 exact fin
theorem M7 (n : Nat) (r : Unit) (h : Ht n = some r) : aB Tryz.prog 208 [.func 225 []] [] (.func 263 [.eptr [.func 225 []]]) [] := by
 unfold Ht at h
 refine ah false Tryz.func208 rfl (nt Tryz.ntmps208 rfl) fun Q hQ t ht => ?_
 conv at ht => whnf
 subst ht
 refine .r1 fun K1 k1 => (k1 _ _ ?_)
 refine .r fun K2 k2 => (k2 _ _ ?_)
 refine .ret ?_
 obtain rfl := sj h
 refine hQ _ _ _ (gF (u2 (.func 263 [.eptr [.func 225 []]] :: (.unk :: []))) [] (wk [] (.u2 (.cons (.func' (.cons (.zW rfl rfl (.cons (.func' .nil) .nil)) .nil)) (.u .nil))) .nil rfl) (dA dJ [] rfl .nil ?_))
 exact fin
theorem Nv (n : Nat) (r : Unit) (h : Hg n = some r) : aB Tryz.prog 208 [.func 226 []] [] (.func 263 [.eptr [.func 226 []]]) [] := by
 unfold Hg at h
 refine ah false Tryz.func208 rfl (nt Tryz.ntmps208 rfl) fun Q hQ t ht => ?_
 conv at ht => whnf
 subst ht
 refine .r1 fun K1 k1 => (k1 _ _ ?_)
 refine .r fun K2 k2 => (k2 _ _ ?_)
 refine .ret ?_
 obtain rfl := sj h
 refine hQ _ _ _ (gF (u2 (.func 263 [.eptr [.func 226 []]] :: (.unk :: []))) [] (wk [] (.u2 (.cons (.func' (.cons (.zW rfl rfl (.cons (.func' .nil) .nil)) .nil)) (.u .nil))) .nil rfl) (dA dJ [] rfl .nil ?_))
 exact fin
theorem Nw (n : Nat) (r : Unit) (h : Hl n = some r) : aB Tryz.prog 208 [.func 227 []] [] (.func 263 [.eptr [.func 227 []]]) [] := by
 unfold Hl at h
 refine ah false Tryz.func208 rfl (nt Tryz.ntmps208 rfl) fun Q hQ t ht => ?_
 conv at ht => whnf
 subst ht
 refine .r1 fun K1 k1 => (k1 _ _ ?_)
 refine .r fun K2 k2 => (k2 _ _ ?_)
 refine .ret ?_
 obtain rfl := sj h
 refine hQ _ _ _ (gF (u2 (.func 263 [.eptr [.func 227 []]] :: (.unk :: []))) [] (wk [] (.u2 (.cons (.func' (.cons (.zW rfl rfl (.cons (.func' .nil) .nil)) .nil)) (.u .nil))) .nil rfl) (dA dJ [] rfl .nil ?_))
 exact fin
theorem Nt (n : Nat) (r : Unit) (h : Hr n = some r) : aB Tryz.prog 208 [.func 228 []] [] (.func 263 [.eptr [.func 228 []]]) [] := by
 unfold Hr at h
 refine ah false Tryz.func208 rfl (nt Tryz.ntmps208 rfl) fun Q hQ t ht => ?_
 conv at ht => whnf
 subst ht
 refine .r1 fun K1 k1 => (k1 _ _ ?_)
 refine .r fun K2 k2 => (k2 _ _ ?_)
 refine .ret ?_
 obtain rfl := sj h
 refine hQ _ _ _ (gF (u2 (.func 263 [.eptr [.func 228 []]] :: (.unk :: []))) [] (wk [] (.u2 (.cons (.func' (.cons (.zW rfl rfl (.cons (.func' .nil) .nil)) .nil)) (.u .nil))) .nil rfl) (dA dJ [] rfl .nil ?_))
 exact fin
theorem Nj (n : Nat) (r : Unit) (h : Ho n = some r) : aB Tryz.prog 208 [.func 229 []] [] (.func 263 [.eptr [.func 229 []]]) [] := by
 unfold Ho at h
 refine ah false Tryz.func208 rfl (nt Tryz.ntmps208 rfl) fun Q hQ t ht => ?_
 conv at ht => whnf
 subst ht
 refine .r1 fun K1 k1 => (k1 _ _ ?_)
 refine .r fun K2 k2 => (k2 _ _ ?_)
 refine .ret ?_
 obtain rfl := sj h
 refine hQ _ _ _ (gF (u2 (.func 263 [.eptr [.func 229 []]] :: (.unk :: []))) [] (wk [] (.u2 (.cons (.func' (.cons (.zW rfl rfl (.cons (.func' .nil) .nil)) .nil)) (.u .nil))) .nil rfl) (dA dJ [] rfl .nil ?_))
 exact fin
theorem aeH (n : Nat) (r : Unit) (h : Ym n = some r) : aB Tryz.prog 131 [] [] (.agg (eU ++ [])) [] := by
 unfold Ym at h
 refine ah false Tryz.func131 rfl (nt Tryz.ntmps131 rfl) fun Q hQ t ht => ?_
 conv at ht => whnf
 subst ht
 refine .r1 fun K1 k1 => (k1 _ _ ?_)
 refine .r fun K2 k2 => (aj (rJ 0 _ rfl) aM .nil (fun g => rfl) (fun g => by simp) ?_)
 refine cP (Dl 0 2 (Ty.mk 2 ([] : Str) ([])) _ rfl) (aj (vR 0 _ rfl) aM .nil (fun g => rfl) (fun g => by simp) ?_)
 refine cP (Dl 0 1 (Ty.mk 1 ([] : Str) ([])) _ rfl) (aj (rJ 0 _ rfl) aM .nil (fun g => rfl) (fun g => by simp) ?_)
 refine cP (Dl 0 1 (Ty.mk 2 ([] : Str) ([])) _ rfl) (k2 _ _ ?_)
 refine .r fun K3 k3 => (k3 _ _ ?_)
 refine .r fun K4 k4 => (cP (aha 0 _ rfl) ?_)
 refine k4 _ _ (.r fun K5 k5 => ?_)
 refine k5 _ _ (.r fun K6 k6 => ?_)
 refine cP (QK 0 _ rfl) (k6 _ _ ?_)
 refine .r fun K7 k7 => (cP (ac0 0 _ rfl) ?_)
 refine k7 _ _ (.r fun K8 k8 => ?_)
 refine aj (rJ 0 _ rfl) aM .nil (fun g => rfl) (fun g => by simp) (cP (Cy 0 (Ty.mk 2 ([] : Str) ([])) _ rfl) ?_)
 refine aj (rJ 0 _ rfl) aM .nil (fun g => rfl) (fun g => by simp) (cP (Cy 0 (Ty.mk 2 ([] : Str) ([])) _ rfl) ?_)
 refine aj (vR 0 _ rfl) aM .nil (fun g => rfl) (fun g => by simp) (cP (Cy 0 (Ty.mk 1 ([] : Str) ([])) _ rfl) ?_)
 refine cP (Oi 0 _ rfl) (cP (Oi 0 _ rfl) ?_)
 refine cP (Zw 0 _ rfl) (cP (ad3 0 _ rfl) ?_)
 refine aj (vR 0 _ rfl) aM .nil (fun g => rfl) (fun g => by simp) (cP (jS 0 (Ty.mk 1 ([] : Str) ([])) _ rfl) ?_)
 refine cP (Dl 0 1 (Ty.mk 5 ([] : Str) ([(Ty.mk 1 ([] : Str) ([]))])) _ rfl) (cP (Fv 0 _ rfl) ?_)
 refine cP (Fv 0 _ rfl) (cP (Fv 0 _ rfl) ?_)
 refine cP (aaB 0 _ rfl) (cP (Nh 0 _ rfl) ?_)
 refine cP (NG 0 _ rfl) (cP (XJ 0 _ rfl) ?_)
 refine cP (Wy 0 _ rfl) (cP (M7 0 _ rfl) ?_)
 refine cP (Nv 0 _ rfl) (cP (Nw 0 _ rfl) ?_)
 refine cP (Nt 0 _ rfl) (cP (Nj 0 _ rfl) ?_)
 refine k8 _ _ (.ret ?_)
 obtain rfl := sj h
 exact hQ _ _ _ rp
theorem PD (n : Nat) (p0 : Env) (r : (List (Str × Ty)) × (List (Str × Bool))) (h : vL n p0 = some r) : aB Tryz.prog 67 [dR p0] [] (.ptr 0 0) [.box (.mapr 1 :: (.mapr 2 :: (eU ++ (.psl 3 1 (List.length ([] : List Int)) :: [])))), .mp (iW r.1), .mp (iB r.2), .arr 1 (List.map encI ([] : List Int))] := by
 unfold vL at h
 refine ah false Tryz.func67 rfl (nt Tryz.ntmps67 rfl) fun Q hQ t ht => ?_
 conv at ht => whnf
 subst ht
 refine .r1 fun K1 k1 => (k1 _ _ ?_)
 refine .q fun K2 k2 => rg 3 ?_
 obtain ⟨x1, hx1, h⟩ := ob h
 refine bZ [] [1] [dR p0] [dR p0] (Mx _ _ _ hx1) aM rfl .nil (by simp; try decide) (.cons (.same _) .nil) (rn := .mapr 1) (by simp; try decide) (Hn := [.mp (iW x1)]) ((bN (congrArg AObj.mp (eu (f := bn) (fun g x => by simp) _ _)) rfl)) (aj (aeH 0 _ rfl) aM .nil (fun g => rfl) (fun g => by simp) ?_)
 refine k2 _ _ (.q fun K3 k3 => .r fun K4 k4 => ?_)
 refine aV (l := p0.carriers) (f := aL) (k4 _ _ ?_)
 refine .block ?_
 obtain ⟨o1, ho1, h⟩ := ob h
 have hR1 : ∀ s2 : List (Str × Bool), o1 = .nx s2 → ∀ t9 h9, Le 0 t9 h9 (u2 (.unk :: (.ptr 0 0 :: (u16 (u4 (u2 (.unk :: []))))))) [.box (.mapr 1 :: (.mapr 2 :: (eU ++ (.slice (List.map encI ([] : List Int)) .nils :: [])))), .mp (iW x1), .mp (iB s2)] → K3 t9 h9 := by
  intro s2 ho
  subst ho
  dsimp only [LR.el] at h
  intro t9 h9 hw
  refine k3 _ _ (AW.le hw ?_)
  refine .r fun K5 k5 => (k5 _ _ ?_)
  refine .ret ?_
  obtain rfl := sj h
  refine hQ _ _ _ (gF (u2 (.ptr 0 0 :: (u16 (u8 [])))) [.box (.mapr 1 :: (.mapr 2 :: (eU ++ (.psl 3 1 (List.length ([] : List Int)) :: [])))), .mp (iW x1), .mp (iB s2), .arr 1 (List.map encI ([] : List Int))] (wk [some 0, some 1, some 2, none] (.u2 (.c rfl (.u16 (.u8 .nil)))) (.b rfl (.c2 (.dO aP (.cons (.nilP _ _) .nil))) (.old .mT (.old .mB (.w rfl .nil)))) rfl) (dA dJ [0, 1, 2, 3] rfl (.cons (by simp only [dx, ren, bS, bK, dM, bO, aQ, aY, bQ, aA, aK, au, aF, aP]; try rfl) (.cons (congrArg AObj.mp (eu (f := bn) (fun g x => by simp) _ _)) (.cons (congrArg AObj.mp (eu (f := (fun (x : Bool) => .bool x)) (fun g x => rfl) _ _)) (.cons (congrArg (AObj.arr _) (aQ _ _)) .nil)))) ?_))
  exact fin
 refine .loopS (qP n p0) (fun (s1 : Int × (List (Str × Bool))) => (u2 (.unk :: (.ptr 0 0 :: (u8 (.unk :: (bT p0.carriers :: (.i (p0.carriers.length : Int) :: (.i s1.1 :: (u8 (u2 (.unk :: [])))))))))))) (fun (s1 : Int × (List (Str × Bool))) => [.box (.mapr 1 :: (.mapr 2 :: (eU ++ (.slice (List.map encI ([] : List Int)) .nils :: [])))), .mp (iW x1), .mp (iB s1.2)]) ho1 (fun _ => rfl) (wk [some 3, some 1, some 2] (.u2 (.u (.c rfl (.u8 (.u (.e au (.c2 (.u8 (.u2 (.u .nil)))))))))) (.b rfl (.c2 (.dO aP (.c rfl .nil))) (.old .mT (.old .mB .nil))) rfl) ?_
 intro n1 s1 hs1 KL1 hKL1
 unfold qP at hs1
 refine .r fun K6 k6 => (k6 _ _ ?_)
 refine .q fun K7 k7 => (.ak rfl hs1 (fun hc1 hs1 => ?_) (fun hc1 hs1 => ?_))
 ·refine .skip (k7 _ _ ?_)
  refine .q fun K8 k8 => (.block ?_)
  refine .r1 fun K9 k9 => ?_
  obtain ⟨x2, hx2, hs1⟩ := ob hs1
  refine aG (l := p0.carriers) (f := aL) (cs := [.str ((x2).name), bX ((x2).elems)]) hx2 (rfl) rfl (k9 _ _ ?_)
  refine rg 0 ?_
  obtain ⟨x3, hx3, hs1⟩ := ob hs1
  refine Oh (m := s1.2) (f := (fun (x : Bool) => .bool x)) hx3 rfl (⟨rfl, ?_⟩)
  refine k8 _ _ (.know 15 0 fun hv1 => ?_)
  refine .know 13 0 fun hv2 => (rg 0 ?_)
  refine ⟨(s1.1 + 1), by have := dz hv1; have := fG hv2; have h8 := of_decide_eq_true hc1; exact bC (by omega) (by omega), ?_⟩
  exact hKL1 _ _ _ hs1 (wk [some 0, some 1, some 2] (.u2 (.u (.c rfl (.u8 (.u (.e au (.c2 (.u8 (.u2 (.u .nil)))))))))) (.b rfl (.c2 (.dO aP (.c rfl .nil))) (.old .mT (.old .mB .nil))) rfl)
 refine .exit ?_
 exact hR1 _ (sj hs1).symm _ _ (li (.u2 (.u (.s (.u16 (.u4 (.u2 (.u .n))))))))
theorem Zf (n : Nat) (p0 : Int) (r : Bool) (h : xP n p0 = some r) : aB Tryz.prog 133 [.i p0] [] (.bool r) [] := by
 unfold xP at h
 refine ah true Tryz.func133 rfl (nt Tryz.ntmps133 rfl) fun Q hQ t ht => ?_
 conv at ht => whnf
 subst ht
 refine .r fun K1 k1 => (k1 _ _ ?_)
 refine .q fun K2 k2 => ?_
 obtain ⟨s1, hj1, h⟩ := ob h
 have hR1 : ∀ t9 h9, Le 0 t9 h9 (u2 (.bool s1 :: (u8 (u4 (u2 []))))) [] → K2 t9 h9 := by
  intro t9 h9 hw
  refine k2 _ _ (AW.le hw ?_)
  clear hw
  refine .ret ?_
  obtain rfl := sj h
  exact hQ _ _ _ rp
 refine rg 0 (aD hj1 (fun hc1 hj1 => ?_) (fun hc1 hj1 => ?_))
 ·cases hj1
  exact hR1 _ _ (li (.u2 (.s (.u8 (.u4 (.u2 .n))))))
 refine aD hj1 (fun hc2 hj1 => ?_) (fun hc2 hj1 => ?_)
 ·cases hj1
  exact hR1 _ _ (li (.u2 (.s (.u8 (.u4 (.u2 .n))))))
 refine aD hj1 (fun hc3 hj1 => ?_) (fun hc3 hj1 => ?_)
 ·cases hj1
  exact hR1 _ _ (li (.u2 (.s (.u8 (.u4 (.u2 .n))))))
 cases hj1
 exact hR1 _ _ (li (.u2 (.s (.u8 (.u4 (.u2 .n))))))
theorem fE (n : Nat) (p0 : Ty) (r : Ty × Bool) (h : dW n p0 = some r) : aB Tryz.prog 134 [bn p0] [] (.aW [bn r.1, .bool r.2]) [] := by
 unfold dW at h
 refine ah true Tryz.func134 rfl (nt Tryz.ntmps134 rfl) fun Q hQ t ht => ?_
 conv at ht => whnf
 subst ht
 refine .q fun K1 k1 => rg 2 (k1 _ _ ?_)
 refine .q fun K2 k2 => .r fun K3 k3 => (k3 _ _ ?_)
 refine .ak rfl h (fun hc1 h => ?_) (fun hc1 h => ?_)
 ·refine .r fun K4 k4 => (k4 _ _ ?_)
  refine .ret ?_
  obtain rfl := sj h
  exact hQ _ _ _ rp
 refine .skip (k2 _ _ ?_)
 refine .r fun K5 k5 => ?_
 obtain ⟨x1, hx1, h⟩ := ob h
 refine aG (l := p0.kids) (f := aI) (cs := [.i ((x1).kind), .str ((x1).name), aH ((x1).kids)]) hx1 (aR x1) rfl (k5 _ _ ?_)
 refine .ret ?_
 obtain rfl := sj h
 exact hQ _ _ _ rp
theorem MX (n : Nat) (p0 : List Decl) (p1 : Str) (r : Ty × Bool) (h : o7 n p0 p1 = some r) : aB Tryz.prog 135 [.flist (List.map aO p0), .str p1] [] (.aW [bn r.1, .bool r.2]) [] := by
 unfold o7 at h
 refine ah true Tryz.func135 rfl (nt Tryz.ntmps135 rfl) fun Q hQ t ht => ?_
 conv at ht => whnf
 subst ht
 refine .r1 fun K1 k1 => (k1 _ _ ?_)
 refine .q fun K2 k2 => (.block ?_)
 obtain ⟨o1, ho1, h⟩ := ob h
 have hR1 : ∀ s2 : Unit, o1 = .nx s2 → ∀ t9 h9, Le 0 t9 h9 (u4 (.ptr 0 0 :: (u16 (u2 [])))) [.box [.i 0, .str ([] : Str), .slice (List.map aI ([] : List Ty)) .nils]] → K2 t9 h9 := by
  intro s2 ho
  subst ho
  dsimp only [LR.el] at h
  intro t9 h9 hw
  refine k2 _ _ (AW.le hw ?_)
  refine .r fun K3 k3 => (k3 _ _ ?_)
  refine .ret ?_
  obtain rfl := sj h
  exact hQ _ _ _ rp
 refine .loopS (jZ n p1) (fun (s1 : List Decl) => (.flist (List.map aO s1) :: (.str p1 :: (u2 (.ptr 0 0 :: (u16 (u2 []))))))) (fun (s1 : List Decl) => [.box [.i 0, .str ([] : Str), .slice (List.map aI ([] : List Ty)) .nils]]) ho1 (fun _ => rfl) (li (.s (.s (.u2 (.s (.u16 (.u2 .n))))))) ?_
 intro n1 s1 hs1 KL1 hKL1
 unfold jZ at hs1
 refine .q fun K4 k4 => .r fun K5 k5 => (atI (l := s1) (f := aO) ?_)
 refine k5 _ _ (.ak rfl hs1 (fun hc1 hs1 => ?_) (fun hc1 hs1 => ?_))
 ·refine .skip (k4 _ _ ?_)
  refine .q fun K6 k6 => (.block ?_)
  refine .r fun K7 k7 => ?_
  obtain ⟨x1, hx1, hs1⟩ := ob hs1
  refine aeA (f := aO) (cells := [.str ((x1.1).name), .i (((x1.1).ty).kind), .str (((x1.1).ty).name), aH (((x1.1).ty).kids), .flist (List.map aO (x1.2))]) hx1 rfl (k7 _ _ ?_)
  refine .ak rfl hs1 (fun hc2 hs1 => ?_) (fun hc2 hs1 => ?_)
  ·refine .r fun K8 k8 => ?_
   obtain ⟨x2, hx2, hs1⟩ := ob hs1
   refine aeA (f := aO) (cells := [.str ((x2.1).name), .i (((x2.1).ty).kind), .str (((x2.1).ty).name), aH (((x2.1).ty).kids), .flist (List.map aO (x2.2))]) hx2 rfl (k8 _ _ ?_)
   refine .ret ?_
   obtain rfl := sj hs1
   dsimp only [LR.el] at h
   obtain rfl := sj h
   exact hQ _ _ _ rp
  refine .skip (k6 _ _ ?_)
  refine rg 0 ?_
  obtain ⟨x3, hx3, hs1⟩ := ob hs1
  refine aeA (f := aO) (cells := [.str ((x3.1).name), .i (((x3.1).ty).kind), .str (((x3.1).ty).name), aH (((x3.1).ty).kids), .flist (List.map aO (x3.2))]) hx3 rfl ?_
  exact hKL1 _ _ _ hs1 (li (.s (.s (.u2 (.s (.u16 (.u2 .n)))))))
 refine .exit ?_
 exact hR1 _ (sj hs1).symm _ _ (li (.u4 (.s (.u16 (.u2 .n)))))
theorem JY (n : Nat) (p0 : Str) (p1 : List (Str × Ty)) (p2 : List (Str × Bool)) (p3 : List Int) (r : Bool) (h : pU n p0 p1 p2 p3 = some r) : aB Tryz.prog 231 [.str p0, .ptr 0 0] [.box [.ptr 1 0], .box (.mapr 2 :: (.mapr 3 :: (eU ++ (.psl 4 1 (List.length p3) :: [])))), .mp (iW p1), .mp (iB p2), .arr 1 (List.map encI p3)] (.bool r) [.box [.ptr 1 0], .box (.mapr 2 :: (.mapr 3 :: (eU ++ (.psl 4 1 (List.length p3) :: [])))), .mp (iW p1), .mp (iB p2), .arr 1 (List.map encI p3)] := by
 unfold pU at h
 refine ah true Tryz.func231 rfl (nt Tryz.ntmps231 rfl) fun Q hQ t ht => ?_
 conv at ht => whnf
 subst ht
 refine .r fun K1 k1 => (k1 _ _ ?_)
 refine .q fun K2 k2 => ?_
 obtain ⟨s1, hj1, h⟩ := ob h
 have hR1 : ∀ t9 h9, Le 5 t9 h9 (u2 (.unk :: (.bool s1 :: (u4 (u2 (.unk :: [])))))) [.box [.ptr 1 0], .box (.mapr 2 :: (.mapr 3 :: (eU ++ (.psl 4 1 (List.length p3) :: [])))), .mp (iW p1), .mp (iB p2), .arr 1 (List.map encI p3)] → K2 t9 h9 := by
  intro t9 h9 hw
  refine k2 _ _ (AW.le hw ?_)
  clear hw
  refine .ret ?_
  obtain rfl := sj h
  refine hQ _ _ _ (gF (u2 (.unk :: (.bool s1 :: (u4 (u2 (.unk :: [])))))) [.box [.ptr 1 0], .box (.mapr 2 :: (.mapr 3 :: (eU ++ (.psl 4 1 (List.length p3) :: [])))), .mp (iW p1), .mp (iB p2), .arr 1 (List.map encI p3)] (wk [some 0, some 1, some 2, some 3, some 4] (.u2 (.u (.c rfl (.u4 (.u2 (.u .nil)))))) (.b rfl (.c rfl .nil) (.b rfl (.c2 (.dO aP (.c rfl .nil))) (.old .mT (.old .mB (.old (.arr' aQ (aT _)) .nil))))) rfl) (dA dJ [0, 1, 2, 3, 4] rfl (.cons (rfl) (.cons (by simp only [dx, ren, bS, bK, dM, bO, aQ, aY, bQ, aA, aK, au, aF, aP]; try rfl) (.cons (congrArg AObj.mp (eu (f := bn) (fun g x => by simp) _ _)) (.cons (congrArg AObj.mp (eu (f := (fun (x : Bool) => .bool x)) (fun g x => rfl) _ _)) (.cons (congrArg (AObj.arr _) (aQ _ _)) .nil))))) ?_))
  exact fin
 refine rg 0 (Vf (m := p2) (f := (fun (x : Bool) => .bool x)) hj1 (fun x1 hx1 hj1 => ?_) (fun hx1 hj1 => ?_))
 ·cases hj1
  exact hR1 _ _ (li (.u2 (.u (.s (.u4 (.u2 (.u .n)))))))
 cases hj1
 exact hR1 _ _ (li (.u2 (.u (.s (.u4 (.u2 (.u .n)))))))
theorem H7 (n : Nat) (p0 : List Str) (p1 : List (Str × Ty)) (p2 : List (Str × Bool)) (p3 : List Int) (r : Int) (h : qG n p0 p1 p2 p3 = some r) : aB Tryz.prog 246 [bX p0, .func 231 [.ptr 0 0]] [.box [.ptr 1 0], .box (.mapr 2 :: (.mapr 3 :: (eU ++ (.psl 4 1 (List.length p3) :: [])))), .mp (iW p1), .mp (iB p2), .arr 1 (List.map encI p3)] (.i r) [.box [.ptr 1 0], .box (.mapr 2 :: (.mapr 3 :: (eU ++ (.psl 4 1 (List.length p3) :: [])))), .mp (iW p1), .mp (iB p2), .arr 1 (List.map encI p3)] := by
 unfold qG at h
 refine ah true Tryz.func246 rfl (nt Tryz.ntmps246 rfl) fun Q hQ t ht => ?_
 conv at ht => whnf
 subst ht
 refine .r fun K1 k1 => (k1 _ _ ?_)
 refine .q fun K2 k2 => .r fun K3 k3 => (aV (l := p0) (f := encS) ?_)
 refine k3 _ _ (.block ?_)
 obtain ⟨o1, ho1, h⟩ := ob h
 have hR1 : ∀ s2 : Unit, o1 = .nx s2 → ∀ t9 h9, Le 5 t9 h9 (u16 (u2 (.unk :: []))) [.box [.ptr 1 0], .box (.mapr 2 :: (.mapr 3 :: (eU ++ (.psl 4 1 (List.length p3) :: [])))), .mp (iW p1), .mp (iB p2), .arr 1 (List.map encI p3)] → K2 t9 h9 := by
  intro s2 ho
  subst ho
  dsimp only [LR.el] at h
  intro t9 h9 hw
  refine k2 _ _ (AW.le hw ?_)
  refine .r fun K4 k4 => (k4 _ _ ?_)
  refine .ret ?_
  obtain rfl := sj h
  refine hQ _ _ _ (gF (u4 (.i (-1) :: (u8 (u4 (u2 []))))) [.box [.ptr 1 0], .box (.mapr 2 :: (.mapr 3 :: (eU ++ (.psl 4 1 (List.length p3) :: [])))), .mp (iW p1), .mp (iB p2), .arr 1 (List.map encI p3)] (wk [some 0, some 1, some 2, some 3, some 4] (.u4 (.c rfl (.u8 (.u4 (.u2 .nil))))) (.b rfl (.c rfl .nil) (.b rfl (.c2 (.dO aP (.c rfl .nil))) (.old .mT (.old .mB (.old (.arr' aQ (aT _)) .nil))))) rfl) (dA dJ [0, 1, 2, 3, 4] rfl (.cons (rfl) (.cons (by simp only [dx, ren, bS, bK, dM, bO, aQ, aY, bQ, aA, aK, au, aF, aP]; try rfl) (.cons (congrArg AObj.mp (eu (f := bn) (fun g x => by simp) _ _)) (.cons (congrArg AObj.mp (eu (f := (fun (x : Bool) => .bool x)) (fun g x => rfl) _ _)) (.cons (congrArg (AObj.arr _) (aQ _ _)) .nil))))) ?_))
  exact fin
 refine .loopS (kJ n p0 p1 p2 p3) (fun (s1 : Int) => (bX p0 :: (.func 231 [.ptr 0 0] :: (u4 (.unk :: (.i (p0.length : Int) :: (.i s1 :: (u8 (u2 []))))))))) (fun (s1 : Int) => [.box [.ptr 1 0], .box (.mapr 2 :: (.mapr 3 :: (eU ++ (.psl 4 1 (List.length p3) :: [])))), .mp (iW p1), .mp (iB p2), .arr 1 (List.map encI p3)]) ho1 (fun _ => rfl) (li (.s (.s (.u4 (.u (.s (.s (.u8 (.u2 .n))))))))) ?_
 intro n1 s1 hs1 KL1 hKL1
 unfold kJ at hs1
 refine .r fun K5 k5 => (k5 _ _ ?_)
 refine .q fun K6 k6 => (.ak rfl hs1 (fun hc1 hs1 => ?_) (fun hc1 hs1 => ?_))
 ·refine .skip (k6 _ _ ?_)
  refine .q fun K7 k7 => (.block ?_)
  refine .r fun K8 k8 => (k8 _ _ ?_)
  refine .r fun K9 k9 => ?_
  obtain ⟨x1, hx1, hs1⟩ := ob hs1
  refine aG (l := p0) (f := encS) (cs := [.str (x1)]) hx1 (rfl) rfl ?_
  obtain ⟨x2, hx2, hs1⟩ := ob hs1
  refine bZ [0, 1, 2, 3, 4] [] [.str x1, .ptr 0 0] [.str x1, .ptr 0 0] (JY _ _ _ _ _ _ hx2) aM rfl (.cons (rfl) (.cons (by simp only [dx, ren, bS, bK, dM, bO, aQ, aY, bQ, aA, aK, au, aF, aP]; try rfl) (.cons (congrArg AObj.mp (eu (f := bn) (fun g x => by simp) _ _)) (.cons (congrArg AObj.mp (eu (f := (fun (x : Bool) => .bool x)) (fun g x => rfl) _ _)) (.cons (congrArg (AObj.arr _) (aQ _ _)) .nil))))) (rfl) (.cons (.same _) (.cons (.same _) .nil)) (rn := .bool x2) (rfl) (Hn := [.box [.ptr 1 0], .box (.mapr 2 :: (.mapr 3 :: (eU ++ (.psl 4 1 (List.length p3) :: [])))), .mp (iW p1), .mp (iB p2), .arr 1 (List.map encI p3)]) ((bN (rfl) (bN (by simp only [dx, ren, bS, bK, dM, bO, aQ, aY, bQ, aA, aK, au, aF, aP]; try rfl) (bN (congrArg AObj.mp (eu (f := bn) (fun g x => by simp) _ _)) (bN (congrArg AObj.mp (eu (f := (fun (x : Bool) => .bool x)) (fun g x => rfl) _ _)) (bN (congrArg (AObj.arr _) (aQ _ _)) rfl)))))) ?_
  refine k9 _ _ (.ak rfl hs1 (fun hc2 hs1 => ?_) (fun hc2 hs1 => ?_))
  ·refine .r fun K10 k10 => (k10 _ _ ?_)
   refine .ret ?_
   obtain rfl := sj hs1
   dsimp only [LR.el] at h
   obtain rfl := sj h
   refine hQ _ _ _ (gF (u4 (.i s1 :: (u8 (u4 (u2 []))))) [.box [.ptr 1 0], .box (.mapr 2 :: (.mapr 3 :: (eU ++ (.psl 4 1 (List.length p3) :: [])))), .mp (iW p1), .mp (iB p2), .arr 1 (List.map encI p3)] (wk [some 0, some 1, some 2, some 3, some 4] (.u4 (.c rfl (.u8 (.u4 (.u2 .nil))))) (.b rfl (.c rfl .nil) (.b rfl (.c2 (.dO aP (.c rfl .nil))) (.old .mT (.old .mB (.old (.arr' aQ (aT _)) .nil))))) rfl) (dA dJ [0, 1, 2, 3, 4] rfl (.cons (rfl) (.cons (by simp only [dx, ren, bS, bK, dM, bO, aQ, aY, bQ, aA, aK, au, aF, aP]; try rfl) (.cons (congrArg AObj.mp (eu (f := bn) (fun g x => by simp) _ _)) (.cons (congrArg AObj.mp (eu (f := (fun (x : Bool) => .bool x)) (fun g x => rfl) _ _)) (.cons (congrArg (AObj.arr _) (aQ _ _)) .nil))))) ?_))
   exact fin
  refine .skip (k7 _ _ ?_)
  refine .know 5 0 fun hv1 => (.know 0 0 fun hv2 => ?_)
  refine rg 0 (⟨(s1 + 1), by have := dz hv1; have := fG hv2; have h8 := of_decide_eq_true hc1; exact bC (by omega) (by omega), ?_⟩)
  exact hKL1 _ _ _ hs1 (li (.s (.s (.u4 (.u (.s (.s (.u8 (.u2 .n)))))))))
 refine .exit ?_
 exact hR1 _ (sj hs1).symm _ _ (li (.u16 (.u2 (.u .n))))
theorem F6 (n : Nat) (p0 : List Str) (p1 : List (Str × Ty)) (p2 : List (Str × Bool)) (p3 : List Int) (r : Bool) (h : om n p0 p1 p2 p3 = some r) : aB Tryz.prog 180 [bX p0, .func 231 [.ptr 0 0]] [.box [.ptr 1 0], .box (.mapr 2 :: (.mapr 3 :: (eU ++ (.psl 4 1 (List.length p3) :: [])))), .mp (iW p1), .mp (iB p2), .arr 1 (List.map encI p3)] (.bool r) [.box [.ptr 1 0], .box (.mapr 2 :: (.mapr 3 :: (eU ++ (.psl 4 1 (List.length p3) :: [])))), .mp (iW p1), .mp (iB p2), .arr 1 (List.map encI p3)] := by
 unfold om at h
 refine ah true Tryz.func180 rfl (nt Tryz.ntmps180 rfl) fun Q hQ t ht => ?_
 conv at ht => whnf
 subst ht
 refine .r fun K1 k1 => (k1 _ _ ?_)
 refine .r fun K2 k2 => ?_
 obtain ⟨x1, hx1, h⟩ := ob h
 refine bZ [0, 1, 2, 3, 4] [] [bX p0, .func 231 [.ptr 0 0]] [bX p0, .func 231 [.ptr 0 0]] (H7 _ _ _ _ _ _ hx1) aM rfl (.cons (rfl) (.cons (by simp only [dx, ren, bS, bK, dM, bO, aQ, aY, bQ, aA, aK, au, aF, aP]; try rfl) (.cons (congrArg AObj.mp (eu (f := bn) (fun g x => by simp) _ _)) (.cons (congrArg AObj.mp (eu (f := (fun (x : Bool) => .bool x)) (fun g x => rfl) _ _)) (.cons (congrArg (AObj.arr _) (aQ _ _)) .nil))))) (by simp; try decide) (.cons (.same _) (.cons (.same _) .nil)) (rn := .i x1) (rfl) (Hn := [.box [.ptr 1 0], .box (.mapr 2 :: (.mapr 3 :: (eU ++ (.psl 4 1 (List.length p3) :: [])))), .mp (iW p1), .mp (iB p2), .arr 1 (List.map encI p3)]) ((bN (rfl) (bN (by simp only [dx, ren, bS, bK, dM, bO, aQ, aY, bQ, aA, aK, au, aF, aP]; try rfl) (bN (congrArg AObj.mp (eu (f := bn) (fun g x => by simp) _ _)) (bN (congrArg AObj.mp (eu (f := (fun (x : Bool) => .bool x)) (fun g x => rfl) _ _)) (bN (congrArg (AObj.arr _) (aQ _ _)) rfl)))))) ?_
 refine k2 _ _ (.ret ?_)
 obtain rfl := sj h
 refine hQ _ _ _ (gF (u4 (.bool (decide (0 ≤ x1)) :: (u4 []))) [.box [.ptr 1 0], .box (.mapr 2 :: (.mapr 3 :: (eU ++ (.psl 4 1 (List.length p3) :: [])))), .mp (iW p1), .mp (iB p2), .arr 1 (List.map encI p3)] (wk [some 0, some 1, some 2, some 3, some 4] (.u4 (.c rfl (.u4 .nil))) (.b rfl (.c rfl .nil) (.b rfl (.c2 (.dO aP (.c rfl .nil))) (.old .mT (.old .mB (.old (.arr' aQ (aT _)) .nil))))) rfl) (dA dJ [0, 1, 2, 3, 4] rfl (.cons (rfl) (.cons (by simp only [dx, ren, bS, bK, dM, bO, aQ, aY, bQ, aA, aK, au, aF, aP]; try rfl) (.cons (congrArg AObj.mp (eu (f := bn) (fun g x => by simp) _ _)) (.cons (congrArg AObj.mp (eu (f := (fun (x : Bool) => .bool x)) (fun g x => rfl) _ _)) (.cons (congrArg (AObj.arr _) (aQ _ _)) .nil))))) ?_))
 exact fin
theorem LW (n : Nat) (p0 : List (Str × Ty)) (p1 : List (Str × Bool)) (p2 : List Int) (p3 : Ty) (r : Bool) (h : ow n p0 p1 p2 p3 = some r) : aB Tryz.prog 136 [.ptr 0 0, bn p3] [.box (.mapr 1 :: (.mapr 2 :: (eU ++ (.psl 3 1 (List.length p2) :: [])))), .mp (iW p0), .mp (iB p1), .arr 1 (List.map encI p2)] (.bool r) [.box (.mapr 1 :: (.mapr 2 :: (eU ++ (.psl 3 1 (List.length p2) :: [])))), .mp (iW p0), .mp (iB p1), .arr 1 (List.map encI p2)] := by
 unfold ow at h
 refine ah true Tryz.func136 rfl (nt Tryz.ntmps136 rfl) fun Q hQ t ht => ?_
 conv at ht => whnf
 subst ht
 refine .q fun K1 k1 => rg 2 (k1 _ _ ?_)
 refine .r fun K2 k2 => ?_
 obtain ⟨x1, hx1, h⟩ := ob h
 refine cP (Co _ _ _ hx1) ?_
 obtain ⟨x2, hx2, h⟩ := ob h
 refine bZ [4, 0, 1, 2, 3] [] [bX x1, .func 231 [.ptr 0 0]] [bX x1, .func 231 [.ptr 4 0]] (F6 _ _ _ _ _ _ hx2) aM rfl (.cons (rfl) (.cons (by simp only [dx, ren, bS, bK, dM, bO, aQ, aY, bQ, aA, aK, au, aF, aP]; try rfl) (.cons (congrArg AObj.mp (eu (f := bn) (fun g x => by simp) _ _)) (.cons (congrArg AObj.mp (eu (f := (fun (x : Bool) => .bool x)) (fun g x => rfl) _ _)) (.cons (congrArg (AObj.arr _) (aQ _ _)) .nil))))) (by simp; try decide) (.cons (.same _) (.cons (.same _) .nil)) (rn := .bool x2) (rfl) (Hn := [.box [.ptr 0 0], .box (.mapr 1 :: (.mapr 2 :: (eU ++ (.psl 3 1 (List.length p2) :: [])))), .mp (iW p0), .mp (iB p1), .arr 1 (List.map encI p2)]) ((bN (rfl) (bN (by simp only [dx, ren, bS, bK, dM, bO, aQ, aY, bQ, aA, aK, au, aF, aP]; try rfl) (bN (congrArg AObj.mp (eu (f := bn) (fun g x => by simp) _ _)) (bN (congrArg AObj.mp (eu (f := (fun (x : Bool) => .bool x)) (fun g x => rfl) _ _)) (bN (congrArg (AObj.arr _) (aQ _ _)) rfl)))))) ?_
 refine k2 _ _ (.ret ?_)
 obtain rfl := sj h
 refine hQ _ _ _ (gF (u4 (.bool (!x2) :: (u4 (.unk :: [])))) [.box (.mapr 1 :: (.mapr 2 :: (eU ++ (.psl 3 1 (List.length p2) :: [])))), .mp (iW p0), .mp (iB p1), .arr 1 (List.map encI p2)] (wk [some 0, some 1, some 2, some 3] (.u4 (.c rfl (.u4 (.u .nil)))) (.b rfl (.c2 (.dO aP (.c rfl .nil))) (.old .mT (.old .mB (.old (.arr' aQ (aT _)) .nil)))) rfl) (dA dJ [0, 1, 2, 3] rfl (.cons (by simp only [dx, ren, bS, bK, dM, bO, aQ, aY, bQ, aA, aK, au, aF, aP]; try rfl) (.cons (congrArg AObj.mp (eu (f := bn) (fun g x => by simp) _ _)) (.cons (congrArg AObj.mp (eu (f := (fun (x : Bool) => .bool x)) (fun g x => rfl) _ _)) (.cons (congrArg (AObj.arr _) (aQ _ _)) .nil)))) ?_))
 exact fin
theorem JD (n : Nat) (p0 : Ty) (r : Ty × Int) (h : ql n p0 = some r) : aB Tryz.prog 137 [bn p0] [] (.aW [bn r.1, .i r.2]) [] := by
 unfold ql at h
 refine ah true Tryz.func137 rfl (nt Tryz.ntmps137 rfl) fun Q hQ t ht => ?_
 conv at ht => whnf
 subst ht
 refine .q fun K1 k1 => rg 2 (k1 _ _ ?_)
 refine .q fun K2 k2 => .r fun K3 k3 => ?_
 obtain ⟨x1, hx1, h⟩ := ob h
 refine aj (rX _ _ _ hx1) aM (.cons (.same _) .nil) (fun g => by simp) (fun g => rfl) (k3 _ _ ?_)
 refine .ak rfl h (fun hc1 h => ?_) (fun hc1 h => ?_)
 ·refine .r fun K4 k4 => (k4 _ _ ?_)
  refine .ret ?_
  obtain rfl := sj h
  exact hQ _ _ _ rp
 refine .skip (k2 _ _ ?_)
 refine .r fun K5 k5 => (k5 _ _ ?_)
 refine .ret ?_
 obtain rfl := sj h
 exact hQ _ _ _ rp
theorem Ar (n : Nat) (p0 : List Ty) (p1 : Int) (p2 : Str) (p3 : List Ty) (r : Ty × Bool) (h : JE n p0 p1 p2 p3 = some r) : aB Tryz.prog 265 [aH p0, .eptr [.i p1, .str p2, aH p3]] [] (.aW [bn r.1, .bool r.2]) [] := by
 unfold JE at h
 refine ah true Tryz.func265 rfl (nt Tryz.ntmps265 rfl) fun Q hQ t ht => ?_
 conv at ht => whnf
 subst ht
 refine .r1 fun K1 k1 => (k1 _ _ ?_)
 refine .r fun K2 k2 => (k2 _ _ ?_)
 refine .ret ?_
 obtain rfl := sj h
 exact hQ _ _ _ rp
theorem U1 (n : Nat) (p0 : Ty) (p1 : Int) (r : Bool) (h : MH n p0 p1 = some r) : aB Tryz.prog 260 [bn p0, .eptr [.i p1]] [] (.bool r) [] := by
 unfold MH at h
 refine ah true Tryz.func260 rfl (nt Tryz.ntmps260 rfl) fun Q hQ t ht => ?_
 conv at ht => whnf
 subst ht
 refine .r1 fun K1 k1 => (k1 _ _ ?_)
 refine .r fun K2 k2 => (k2 _ _ ?_)
 refine .ret ?_
 obtain rfl := sj h
 exact hQ _ _ _ rp
theorem Jj (n : Nat) (p0 : List Ty) (p1 r : Int) (h : sM n p0 p1 = some r) : aB Tryz.prog 245 [aH p0, .func 260 [.eptr [.i p1]]] [] (.i r) [] := by
 unfold sM at h
 refine ah true Tryz.func245 rfl (nt Tryz.ntmps245 rfl) fun Q hQ t ht => ?_
 conv at ht => whnf
 subst ht
 refine .r fun K1 k1 => (k1 _ _ ?_)
 refine .q fun K2 k2 => .r fun K3 k3 => (aV (l := p0) (f := aI) ?_)
 refine k3 _ _ (.block ?_)
 obtain ⟨o1, ho1, h⟩ := ob h
 have hR1 : ∀ s2 : Unit, o1 = .nx s2 → ∀ t9 h9, Le 0 t9 h9 (u16 (u2 (.unk :: []))) [] → K2 t9 h9 := by
  intro s2 ho
  subst ho
  dsimp only [LR.el] at h
  intro t9 h9 hw
  refine k2 _ _ (AW.le hw ?_)
  refine .r fun K4 k4 => (k4 _ _ ?_)
  refine .ret ?_
  obtain rfl := sj h
  exact hQ _ _ _ rp
 refine .loopS (l6 n p0 p1) (fun (s1 : Int) => (aH p0 :: (.func 260 [.eptr [.i p1]] :: (u4 (.unk :: (.i (p0.length : Int) :: (.i s1 :: (u8 (u2 []))))))))) (fun (s1 : Int) => []) ho1 (fun _ => rfl) (li (.s (.s (.u4 (.u (.s (.s (.u8 (.u2 .n))))))))) ?_
 intro n1 s1 hs1 KL1 hKL1
 unfold l6 at hs1
 refine .r fun K5 k5 => (k5 _ _ ?_)
 refine .q fun K6 k6 => (.ak rfl hs1 (fun hc1 hs1 => ?_) (fun hc1 hs1 => ?_))
 ·refine .skip (k6 _ _ ?_)
  refine .q fun K7 k7 => (.block ?_)
  refine .r fun K8 k8 => (k8 _ _ ?_)
  refine .r fun K9 k9 => ?_
  obtain ⟨x1, hx1, hs1⟩ := ob hs1
  refine aG (l := p0) (f := aI) (cs := [.i ((x1).kind), .str ((x1).name), aH ((x1).kids)]) hx1 (aR x1) rfl (aj (U1 0 x1 p1 _ rfl) aM (.cons (.same _) (.cons (.same _) .nil)) (fun g => by simp) (fun g => rfl) ?_)
  refine k9 _ _ (.ak rfl hs1 (fun hc2 hs1 => ?_) (fun hc2 hs1 => ?_))
  ·refine .r fun K10 k10 => (k10 _ _ ?_)
   refine .ret ?_
   obtain rfl := sj hs1
   dsimp only [LR.el] at h
   obtain rfl := sj h
   exact hQ _ _ _ rp
  refine .skip (k7 _ _ ?_)
  refine .know 5 0 fun hv1 => (.know 0 0 fun hv2 => ?_)
  refine rg 0 (⟨(s1 + 1), by have := dz hv1; have := fG hv2; have h8 := of_decide_eq_true hc1; exact bC (by omega) (by omega), ?_⟩)
  exact hKL1 _ _ _ hs1 (li (.s (.s (.u4 (.u (.s (.s (.u8 (.u2 .n)))))))))
 refine .exit ?_
 exact hR1 _ (sj hs1).symm _ _ (li (.u16 (.u2 (.u .n))))
theorem G7 (n : Nat) (p0 : List Ty) (p1 : Int) (r : Bool) (h : pW n p0 p1 = some r) : aB Tryz.prog 178 [aH p0, .func 260 [.eptr [.i p1]]] [] (.bool r) [] := by
 unfold pW at h
 refine ah true Tryz.func178 rfl (nt Tryz.ntmps178 rfl) fun Q hQ t ht => ?_
 conv at ht => whnf
 subst ht
 refine .r fun K1 k1 => (k1 _ _ ?_)
 refine .r fun K2 k2 => ?_
 obtain ⟨x1, hx1, h⟩ := ob h
 refine aj (Jj _ _ _ _ hx1) aM (.cons (.same _) (.cons (.same _) .nil)) (fun g => by simp) (fun g => rfl) (k2 _ _ ?_)
 refine .ret ?_
 obtain rfl := sj h
 exact hQ _ _ _ rp
theorem fI (n : Nat) (p0 : List Ty) (p1 : Int) (p2 : Str) (p3 : List Ty) (p4 : Int) (r : Ty × Bool) (h : bU n p0 p1 p2 p3 p4 = some r) : aB Tryz.prog 259 [aH p0, .eptr [.i p1, .str p2, aH p3], .eptr [.i p4]] [] (.aW [bn r.1, .bool r.2]) [] := by
 unfold bU at h
 refine ah true Tryz.func259 rfl (nt Tryz.ntmps259 rfl) fun Q hQ t ht => ?_
 conv at ht => whnf
 subst ht
 refine .r1 fun K1 k1 => (k1 _ _ ?_)
 refine .r fun K2 k2 => ?_
 obtain ⟨x1, hx1, h⟩ := ob h
 refine aj (G7 _ _ _ _ hx1) aM (.cons (.same _) (.cons (.same _) .nil)) (fun g => by simp) (fun g => rfl) (⟨rfl, ?_⟩)
 refine k2 _ _ (.ret ?_)
 obtain rfl := sj h
 exact hQ _ _ _ rp
end Abs
end Go.Proofs.YtiiaccpcoclklaaGreat
