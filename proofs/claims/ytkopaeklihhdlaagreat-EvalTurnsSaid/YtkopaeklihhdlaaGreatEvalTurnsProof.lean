/-
  EvalTurns holds: for all arguments the law returns true, and each argument reads afterwards as it read before. Conditions: none.
-/
import Derived.WalkKit
import Derived.OpenShut
import Derived.ShutString
import Derived.ChangeOld
import Derived.Test.YtkopaeklihhdlaaGreatCM3ox3ca5a1
import Derived.Test.YtkopaeklihhdlaaGreatCG1ox64f94a
import Derived.Test.YtkopaeklihhdlaaGreatCP64ox1ce3f7
import Derived.Test.YtkopaeklihhdlaaGreatCFEvalTurnsoxcb17dd
set_option linter.unusedSimpArgs false
set_option linter.unusedVariables false
namespace Go.Proofs.YtkopaeklihhdlaaGreat
open Go Go.Proofs Go.ChangeShapes Go.WideShapes Go.ChangeAt Go.RowKit
open Go.ChangeMaps (open_string shut_string)
theorem own : ownKnob Tryz.prog.godebug = none := by kernel_rfl
set_option maxRecDepth 100000 in
theorem NT (w : Abs.S_api_World) (v : Abs.Val) (x : Abs.S_refinementlaw03_Turned) (h0 : (∀ d ∈ w.env.names, d.name.length ≤ 9223372036854775807) ∧ ∀ v ∈ w.values, Abs.dw v) (h1 : Abs.dw v ∧ Abs.dS v) :
  Abs.aA Tryz.prog 7 [.agg (Abs.gB w), .agg (Abs.ah v), .agg (Abs.eX x)] [] (.bool true) [] := by
 obtain ⟨n, hn⟩ := Abs.SV w v x h0.1 h0.2 h1.1 h1.2
 have := Abs.N9 n w v x true (hn n (Nat.le_refl n))
 simp only [Abs.aX]
 exact this
set_option maxRecDepth 100000 in
theorem LM (os : Os) (started : os.Started) (H : Type) (enc : TypeId × Value → H) :
  ReturnsInHanded {} Tryz.checked os 7 .any (Rows.evalTurnsSpec.pre6 enc Tryz.prog Tryz.f7 Rows.evalTurnsRow.domain false) (Rows.evalTurnsSpec.post enc Tryz.prog Tryz.f7 false true false false) := by
 refine returnsInHanded_of_change_sized (C := Tryz.checked) own started (by kernel_rfl) Tryz.func7
  (ChangeSpec.witness6 (enc := enc) (C := Tryz.checked) false ⟨#[], #[.agg #[.slice none 0 0, .slice none 0 0, .slice none 0 0, .slice none 0 0], .agg #[.int .i64 0, .int .i64 0, .string ⟨#[]⟩, .slice none 0 0], .agg #[.string ⟨#[]⟩, .slice none 0 0]], []⟩ 8 (by kernel_rfl) (by kernel_rfl) (by kernel_rfl) (by kernel_rfl)) ?_
 intro W base args ds gs before hval0 hW hcnd hz0 _
 have hz := List.all_eq_true.1 hz0
 have hval : ∀ (j : Nat) t v, Tryz.f7.params[j]? = some t → args[j]? = some v → Value.okWide Tryz.prog W .any base t v := hval0
 have hW' := hW
 obtain ⟨p, q, hA0, hV, rfl, hfz, hnd⟩ := hW
 have hA : DataW.TrodAll enc Tryz.prog W 0 (fun _ => true) true Tryz.f7.params.toList args.toList ds p := hA0
 rw [Tryz.params7] at hA hval hz
 obtain ⟨v0, vs0, d0, ds0, p0, q0, hargs, rfl, rfl, a0, r0⟩ := trodAll_cons hA
 obtain ⟨v1, vs1, d1, ds1, p1, q1, rfl, rfl, rfl, a1, r1⟩ := trodAll_cons r0
 obtain ⟨v2, vs2, d2, ds2, p2, q2, rfl, rfl, rfl, a2, r2⟩ := trodAll_cons r1
 obtain ⟨rfl, rfl, rfl⟩ := trodAll_nil r2
 obtain rfl : args = #[v0, v1, v2] := by cases args; simp_all
 obtain ⟨rfl, rfl⟩ := trodVars_none hV
 obtain ⟨w, e0⟩ := Abs.tO (κ := []) (pv := Abs.aP (fun _ _ => False) [] []) Tryz.underlying29 (hval 0 29 v0 rfl rfl) a0 (Abs.Da Abs.aO)
 have w1 : Abs.w9 Tryz.prog 31 d1 := fun m hm => of_decide_eq_true (hz m (DataW.weights_mem_each (j := 1) rfl rfl m hm))
 obtain ⟨v, e1, g1⟩ := Abs.uL (κ := []) (pv := Abs.aP (fun _ _ => False) [] []) Tryz.underlying31 (hval 1 31 v1 rfl rfl) a1 w1 (Abs.rA Abs.aO)
 obtain ⟨x, e2⟩ := Abs.tO (κ := []) (pv := Abs.aP (fun _ _ => False) [] []) Tryz.underlying59 (hval 2 59 v2 rfl rfl) a2 (Abs.VQ Abs.aO)
 have lt0 : ∀ x ∈ p0, x.block < W.heap.size := by obtain ⟨m, hm⟩ := a0; exact DataW.trod_lt m _ _ _ hm
 have lt1 : ∀ x ∈ p1, x.block < W.heap.size := by obtain ⟨m, hm⟩ := a1; exact DataW.trod_lt m _ _ _ hm
 have lt2 : ∀ x ∈ p2, x.block < W.heap.size := by obtain ⟨m, hm⟩ := a2; exact DataW.trod_lt m _ _ _ hm
 clear hA0 hval0
 have hcall := Abs.BP (vs := [v0, v1, v2]) (w := W) (NT w v x (Abs.Dm e0) ⟨Abs.uE e1, g1⟩) rfl (fun j hj => by
  match j, hj with
  | 0, _ => exact e0
  | 1, _ => exact e1
  | 2, _ => exact e2)
 refine hcall.mono fun e W' ⟨he, bel⟩ => ?_
 subst he
 exact ⟨_, rfl, _, _, _, [], _, [], hW', trodAll_mk1 (shut_bool Tryz.underlying4 _), (trodAll_cons_mk (Below.trod Abs.laidOut (by kernel_rfl) (of_decide_eq_true (by kernel_rfl)) a0 bel lt0) (trodAll_cons_mk (Below.trod Abs.laidOut (by kernel_rfl) (of_decide_eq_true (by kernel_rfl)) a1 bel lt1) (trodAll_cons_mk (Below.trod Abs.laidOut (by kernel_rfl) (of_decide_eq_true (by kernel_rfl)) a2 bel lt2) trodAll_mk0))), rfl, bel.frame _, fun h => by cases h⟩
theorem EvalTurns_holds : Rows.EvalTurnsSaid :=
 OpenClaim.holds_of_wide 7 Tryz.f7 rfl rfl rfl rfl rfl rfl rfl ⟨rfl, rfl, rfl, rfl, rfl⟩ rfl rfl rfl rfl rfl MI Tryz.func7 Nt PZ OV
  (fun os started H enc _ => LM os started H enc)
#print axioms EvalTurns_holds
end Go.Proofs.YtkopaeklihhdlaaGreat
