/-
  A slice held against nil: either answer may come, 'true' only of an empty one. Conditions: none; a lemma over any program.
-/
import Derived.KernelRfl
import Derived.Test.YtiiaccpcoclklaaGreatCData2ox2b18fc
set_option linter.unusedSimpArgs false
set_option linter.unusedVariables false
namespace Go.Proofs.YtiiaccpcoclklaaGreat
namespace Abs
open Go
theorem AW.aos {P : Program} {m id x y d : Nat} {o1 o2 : Oper} {Q : QT} {t : List AV} {h : List AObj} {T T2 e : TypeId} {es : List (List AV)} {tag : Tag}
  (h1 : o1.op = .move (.tmp x)) (g1 : o1.guard = none) (d1 : o1.dst = some y) (h2 : o2.op = .binOp .eql T (.tmp y) (.const (.slice none 0 0)) T2) (g2 : o2.guard = none) (d2 : o2.dst = some d)
  (hT : P.underlying T = some (.slice e)) (hx : t.getD x .unk = .slice es tag) (hy : y < t.length)
  (hq : ∀ b : Bool, (b = true → es = []) → Q .normal ((t.set y (.slice es tag)).set d (.bool b)) h) : AW P m (.region id #[o1, o2] false) Q t h := by
 intro C κ a w hk hs
 refine wp_region_lit (l := [o1, o2]) ?_
 simp only [wpList]
 have w1 : ∀ f, Region.wanted o1 f = true := fun f => by simp [Region.wanted, g1]
 have w2 : ∀ f, Region.wanted o2 f = true := fun f => by simp [Region.wanted, g2]
 simp only [w1, if_true]
 refine .inl ?_
 have hop1 : DV P o1 ⟨t, h⟩ ((⟨t, h⟩ : ASt).wr (aX o1.dst (.slice es tag))) := ajt (by rw [h1]; simp only [bf, gT]; rw [hx])
 refine hop1 C κ a w hs _ _ fun κ' a' w' hs' => ?_
 simp only [w2, if_true]
 refine .inl ?_
 rw [d1] at hs'
 have hv := hs'.ev (.tmp y)
 have e1 : gT ((⟨t, h⟩ : ASt).wr (aX (some y) (.slice es tag))).tmps (.tmp y) = .slice es tag := by
  show (t.set y (.slice es tag)).getD y .unk = _
  exact og hy
 rw [e1] at hv
 cases hev : a'.eval (.tmp y) with
 | slice ad n cap =>
  rw [hev] at hv
  have hrun : (execOp a'.eval o2).run P w' = .ok (.value (.bool ad.isNone)) w' := by
   obtain ⟨dst, op, ty, pos, after, guard⟩ := o2
   simp only at h2
   subst h2
   have hc : a'.eval (.const (.slice none 0 0)) = .slice none 0 0 := rfl
   have heq : (Op.equal T (.slice ad n cap) (.slice none 0 0)).run P w' = .ok ad.isNone w' := by
    have hh : ∀ dd, (Op.equalIn (dd + 1) T (.slice ad n cap) (.slice none 0 0)).run P w' = .ok ad.isNone w' := fun dd => by cases ad <;> simp [Op.equalIn, run_underlying hT]
    exact hh 9999
   simp [execOp, hev, hc, binOp, eqGuard, heq]
  unfold Oper.wp
  rw [hrun]
  refine ⟨(((⟨t, h⟩ : ASt).wr (aX (some y) (.slice es tag))).setSlot d (.bool ad.isNone)), κ', hq _ fun hb => ?_, ?_⟩
  ·cases hv with
   | slice b off sz u q1 q2 q3 q3' q4 q5 q6 q7 =>
    apply Classical.byContradiction
    intro hne
    rw [q2 hne] at hb
    cases hb
  ·rw [d2]; exact hs'.put (.bool _)
 | _ => rw [hev] at hv; cases hv
end Abs
end Go.Proofs.YtiiaccpcoclklaaGreat
namespace Go.Proofs.YtiiaccpcoclklaaGreat
namespace Abs
open Go Go.Proofs
set_option maxRecDepth 100000 in
theorem RP (n : Nat) (p0 : List Int) (r : List Int) (h : slices_Clone_int n p0 = some r) : aB Tryz.prog 69 [.slice (List.map encI p0) .shared] [] (.slice (List.map encI r) .shared) [] := by
 unfold slices_Clone_int at h
 refine ah true Tryz.func69 rfl (by rw [Tryz.ntmps69]; exact Nat.le_of_ble_eq_true rfl) fun Q hQ t ht => ?_
 conv at ht => whnf
 subst ht
 refine AW.xw fun K1 hK1 => ?_
 refine AW.region dJ qY 0 ?_
 conv => whnf
 refine hK1 _ _ ?_
 refine AW.xw fun K2 hK2 => ?_
 refine AW.xw fun K3 hK3 => ?_
 refine AW.aos (x := 0) (y := 3) (d := 4) (T := 34) (e := 3) (es := List.map encI p0) (tag := .shared) rfl rfl rfl rfl rfl rfl (by kernel_rfl) rfl (Nat.le_of_ble_eq_true rfl) fun b hb => ?_
 conv => whnf
 refine hK3 _ _ ?_
 refine AW.cond (b := b) rfl (fun e1 => ?_) (fun e1 => ?_)
 ·have hp : p0 = [] := by simpa using hb e1
  subst hp
  have hr : r = [] := by unfold app at h; simpa using h.symm
  subst hr
  refine AW.xw fun K4 hK4 => ?_
  refine AW.region dJ qY 0 ?_
  conv => whnf
  refine hK4 _ _ ?_
  refine AW.ret ?_
  conv => whnf
  refine hQ _ _ _ (Ig dJ (fun g => by simp only [ren, bS, bK, dM, aQ]) ?_)
  conv => whnf
  try rfl
 ·refine AW.skip ?_
  conv => whnf
  refine hK2 _ _ ?_
  refine AW.xw fun K4 hK4 => ?_
  refine AW.region dJ qY 2 ?_
  conv => whnf
  refine ⟨List.map encI ([] : List Int), rfl, ?_⟩
  conv => whnf
  refine eG (l := ([] : List Int)) (ys := p0) (f := encI) h amJ rfl rfl rfl ?_
  conv => whnf
  refine hK4 _ _ ?_
  refine AW.ret ?_
  conv => whnf
  refine hQ _ _ _ (Ig dJ (fun g => by simp only [ren, bS, bK, dM, aQ]) ?_)
  conv => whnf
  try rfl
theorem L8 (n : Nat) (p0 : List (Str × Bool)) (r : List Str) (h : vZ n p0 = some r) :
  aB Tryz.prog 104 [.func 185 [.ptr 1 0]] [.mp (List.map (fun p => (p.1, (fun (x : Bool) => .bool x) p.2)) p0), .box [.mapr 0]] (.slice (List.map encS r) .shared) [.mp (List.map (fun p => (p.1, (fun (x : Bool) => .bool x) p.2)) p0), .box [.mapr 0]] := by
 unfold vZ at h
 split at h
 ·rename_i hl
  have e := Option.some.inj h
  subst e
  have := SQ [.mp (List.map (fun p => (p.1, (fun (x : Bool) => .bool x) p.2)) p0), .box [.mapr 0]] 1 0 _ rfl rfl (by simpa using hl)
  simpa [List.map_map, Function.comp_def] using this
 ·cases h
set_option maxRecDepth 100000 in
theorem Xd (n : Nat) (p0 : List (Str × Bool)) (r : Unit) (h : afv n p0 = some r) : aB Tryz.prog 105 [.mapr 0] [.mp (List.map (fun p => (p.1, (fun (x : Bool) => .bool x) p.2)) p0)] (.func 185 [.ptr 1 0]) [.mp (List.map (fun p => (p.1, (fun (x : Bool) => .bool x) p.2)) p0), .box [.mapr 0]] := by
 refine ah false Tryz.func105 rfl (by rw [Tryz.ntmps105]; exact Nat.le_of_ble_eq_true rfl) fun Q hQ t ht => ?_
 conv at ht => whnf
 subst ht
 refine AW.xw fun K1 hK1 => ?_
 refine AW.region dJ qY 1 ?_
 conv => whnf
 refine hK1 _ _ ?_
 refine AW.xw fun K2 hK2 => ?_
 refine AW.region dJ qY 0 ?_
 conv => whnf
 refine hK2 _ _ ?_
 refine AW.ret ?_
 conv => whnf
 refine hQ _ _ _ (.inl (dA dJ [0, 1] rfl (.cons (congrArg AObj.mp (eu (f := (fun (x : Bool) => .bool x)) (fun g x => rfl) _ _)) (.cons rfl .nil)) ?_))
 conv => whnf
 rfl
end Abs
end Go.Proofs.YtiiaccpcoclklaaGreat
