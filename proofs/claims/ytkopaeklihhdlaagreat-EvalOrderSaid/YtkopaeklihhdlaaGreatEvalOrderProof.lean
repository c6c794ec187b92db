/-
  EvalOrder holds: for all arguments the law returns true, and each argument reads afterwards as it read before. Conditions: none.
-/
import Derived.WalkKit
import Derived.OpenShut
import Derived.ShutString
import Derived.ChangeOld
import Derived.Test.YtkopaeklihhdlaaGreatCG1x880a47
import Derived.Test.YtkopaeklihhdlaaGreatCH2ox820148
import Derived.Test.YtkopaeklihhdlaaGreatCP62oxcd0706
import Derived.Test.YtkopaeklihhdlaaGreatCFEvalOrderoxa28cfa
set_option linter.unusedSimpArgs false
set_option linter.unusedVariables false
namespace Go.Proofs.YtkopaeklihhdlaaGreat
open Go Go.Proofs Go.ChangeShapes Go.WideShapes Go.ChangeAt Go.RowKit
open Go.ChangeMaps (open_string shut_string)
theorem own : ownKnob Tryz.prog.godebug = none := by kernel_rfl
set_option maxRecDepth 100000 in
theorem Jr (a : Abs.Val) (b : Abs.Val) (c : Abs.Val) (h0 : Abs.eY a ∧ Abs.fQ a) (h1 : Abs.eY b ∧ Abs.fQ b) (h2 : Abs.eY c ∧ Abs.fQ c) :
  Abs.ak Tryz.prog 5 [.agg (Abs.ah a), .agg (Abs.ah b), .agg (Abs.ah c)] [] (.bool true) [] := by
 obtain ⟨n, hn⟩ := Abs.Ow a b c h0.2 h1.2 h2.2
 have := Abs.JU n a b c true (hn n (Nat.le_refl n))
 simp only [Abs.bf]
 exact this
set_option maxRecDepth 100000 in
theorem HY (os : Os) (started : os.Started) (H : Type) (enc : TypeId × Value → H) :
  ReturnsInHanded {} Tryz.checked os 5 .any (Rows.evalOrderSpec.pre6 enc Tryz.prog Tryz.f5 Rows.evalOrderRow.domain false) (Rows.evalOrderSpec.post enc Tryz.prog Tryz.f5 false true false false) := by
 refine returnsInHanded_of_change_sized (C := Tryz.checked) own started (by kernel_rfl) Tryz.func5
  (ChangeSpec.witness6 (enc := enc) (C := Tryz.checked) false ⟨#[], #[.agg #[.int .i64 0, .int .i64 0, .string ⟨#[]⟩, .slice none 0 0], .agg #[.int .i64 0, .int .i64 0, .string ⟨#[]⟩, .slice none 0 0], .agg #[.int .i64 0, .int .i64 0, .string ⟨#[]⟩, .slice none 0 0]], []⟩ 8 (by kernel_rfl) (by kernel_rfl) (by kernel_rfl) (by kernel_rfl)) ?_
 intro W base args ds gs before hval0 hW hcnd hz0 _
 have hz := List.all_eq_true.1 hz0
 have hval : ∀ (j : Nat) t v, Tryz.f5.params[j]? = some t → args[j]? = some v → Value.okWide Tryz.prog W .any base t v := hval0
 have hW' := hW
 obtain ⟨p, q, hA0, hV, rfl, hfz, hnd⟩ := hW
 have hA : DataW.TrodAll enc Tryz.prog W 0 (fun _ => true) true Tryz.f5.params.toList args.toList ds p := hA0
 rw [Tryz.params5] at hA hval hz
 obtain ⟨v0, vs0, d0, ds0, p0, q0, hargs, rfl, rfl, a0, r0⟩ := trodAll_cons hA
 obtain ⟨v1, vs1, d1, ds1, p1, q1, rfl, rfl, rfl, a1, r1⟩ := trodAll_cons r0
 obtain ⟨v2, vs2, d2, ds2, p2, q2, rfl, rfl, rfl, a2, r2⟩ := trodAll_cons r1
 obtain ⟨rfl, rfl, rfl⟩ := trodAll_nil r2
 obtain rfl : args = #[v0, v1, v2] := by cases args; simp_all
 obtain ⟨rfl, rfl⟩ := trodVars_none hV
 have w0 : Abs.vE Tryz.prog 31 d0 := fun m hm => of_decide_eq_true (hz m (DataW.weights_mem_each (j := 0) rfl rfl m hm))
 obtain ⟨a, e0, g0⟩ := Abs.uD (κ := []) (pv := Abs.aM (fun _ _ => False) [] []) Tryz.underlying31 (hval 0 31 v0 rfl rfl) a0 w0 (Abs.rF Abs.aL)
 have w1 : Abs.vE Tryz.prog 31 d1 := fun m hm => of_decide_eq_true (hz m (DataW.weights_mem_each (j := 1) rfl rfl m hm))
 obtain ⟨b, e1, g1⟩ := Abs.uD (κ := []) (pv := Abs.aM (fun _ _ => False) [] []) Tryz.underlying31 (hval 1 31 v1 rfl rfl) a1 w1 (Abs.rF Abs.aL)
 have w2 : Abs.vE Tryz.prog 31 d2 := fun m hm => of_decide_eq_true (hz m (DataW.weights_mem_each (j := 2) rfl rfl m hm))
 obtain ⟨c, e2, g2⟩ := Abs.uD (κ := []) (pv := Abs.aM (fun _ _ => False) [] []) Tryz.underlying31 (hval 2 31 v2 rfl rfl) a2 w2 (Abs.rF Abs.aL)
 have lt0 : ∀ x ∈ p0, x.block < W.heap.size := by obtain ⟨m, hm⟩ := a0; exact DataW.trod_lt m _ _ _ hm
 have lt1 : ∀ x ∈ p1, x.block < W.heap.size := by obtain ⟨m, hm⟩ := a1; exact DataW.trod_lt m _ _ _ hm
 have lt2 : ∀ x ∈ p2, x.block < W.heap.size := by obtain ⟨m, hm⟩ := a2; exact DataW.trod_lt m _ _ _ hm
 clear hA0 hval0
 have hcall := Abs.IL (vs := [v0, v1, v2]) (w := W) (Jr a b c ⟨Abs.wH e0, g0⟩ ⟨Abs.wH e1, g1⟩ ⟨Abs.wH e2, g2⟩) rfl (fun j hj => by
  match j, hj with
  | 0, _ => exact e0
  | 1, _ => exact e1
  | 2, _ => exact e2)
 refine hcall.mono fun e W' ⟨he, bel⟩ => ?_
 subst he
 exact ⟨_, rfl, _, _, _, [], _, [], hW', trodAll_mk1 (shut_bool Tryz.underlying4 _), (trodAll_cons_mk (Below.trod Abs.laidOut (by kernel_rfl) (of_decide_eq_true (by kernel_rfl)) a0 bel lt0) (trodAll_cons_mk (Below.trod Abs.laidOut (by kernel_rfl) (of_decide_eq_true (by kernel_rfl)) a1 bel lt1) (trodAll_cons_mk (Below.trod Abs.laidOut (by kernel_rfl) (of_decide_eq_true (by kernel_rfl)) a2 bel lt2) trodAll_mk0))), rfl, bel.frame _, fun h => by cases h⟩
theorem EvalOrder_holds : Rows.EvalOrderSaid :=
 OpenClaim.holds_of_wide 5 Tryz.f5 rfl rfl rfl rfl rfl rfl rfl ⟨rfl, rfl, rfl, rfl, rfl⟩ rfl rfl rfl rfl rfl JW Tryz.func5 JG KE Lf
  (fun os started H enc _ => HY os started H enc)
#print axioms EvalOrder_holds
end Go.Proofs.YtkopaeklihhdlaaGreat
