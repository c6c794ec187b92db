/-
  EvalHas holds: for all arguments the law returns true, and each argument reads afterwards as it read before. Conditions: none.
-/
import Derived.WalkKit
import Derived.OpenShut
import Derived.ShutString
import Derived.ChangeOld
import Derived.Test.YtkopaeklihhdlaaGreatCE15ox6ca1aa
import Derived.Test.YtkopaeklihhdlaaGreatCG1ox8a6241
import Derived.Test.YtkopaeklihhdlaaGreatCFEvalHasox48d8f3
set_option linter.unusedSimpArgs false
set_option linter.unusedVariables false
namespace Go.Proofs.YtkopaeklihhdlaaGreat
open Go Go.Proofs Go.ChangeShapes Go.WideShapes Go.ChangeAt Go.RowKit
open Go.ChangeMaps (open_string shut_string)
theorem own : ownKnob Tryz.prog.godebug = none := by kernel_rfl
set_option maxRecDepth 100000 in
theorem Lj (w : Abs.S_api_World) (x : Abs.S_refinementlaw03_Typed) (s : Abs.S_api_Scope) (h0 : (∀ d ∈ w.env.names, d.name.length ≤ 9223372036854775807) ∧ ∀ v ∈ w.values, Abs.jR v) (h1 : Abs.jR x.v) :
  Abs.aj Tryz.prog 3 [.agg (Abs.gT w), .agg (Abs.dh x), .agg (Abs.lX s)] [] (.bool true) [] := by
 obtain ⟨n, hn⟩ := Abs.PG w x s h0.1 h0.2 h1
 have := Abs.Lr n w x s true (hn n (Nat.le_refl n))
 exact this
set_option maxRecDepth 100000 in
theorem Jp (os : Os) (started : os.Started) (H : Type) (enc : TypeId × Value → H) :
  ReturnsInHanded {} Tryz.checked os 3 .any (Rows.evalHasSpec.pre6 enc Tryz.prog Tryz.f3 Rows.evalHasRow.domain false) (Rows.evalHasSpec.post enc Tryz.prog Tryz.f3 false true false false) := by
 refine returnsInHanded_of_change (C := Tryz.checked) own started (by kernel_rfl) Tryz.func3
  (ChangeSpec.witness6 (enc := enc) (C := Tryz.checked) false ⟨#[], #[.agg #[.slice none 0 0, .slice none 0 0, .slice none 0 0, .slice none 0 0], .agg #[.slice none 0 0, .int .i64 0, .int .i64 0, .string ⟨#[]⟩, .slice none 0 0, .int .i64 0, .string ⟨#[]⟩, .slice none 0 0], .agg #[.slice none 0 0, .int .i64 0, .int .i64 0]], []⟩ 8 (by kernel_rfl) (by kernel_rfl) (by kernel_rfl) (by kernel_rfl)) ?_
 intro W base args ds gs before hval0 hW hcnd _
 have hval : ∀ (j : Nat) t v, Tryz.f3.params[j]? = some t → args[j]? = some v → Value.okWide Tryz.prog W .any base t v := hval0
 have hW' := hW
 obtain ⟨p, q, hA0, hV, rfl, hfz, hnd⟩ := hW
 have hA : DataW.TrodAll enc Tryz.prog W 0 (fun _ => true) true Tryz.f3.params.toList args.toList ds p := hA0
 rw [Tryz.params3] at hA hval
 obtain ⟨v0, vs0, d0, ds0, p0, q0, hargs, rfl, rfl, a0, r0⟩ := trodAll_cons hA
 obtain ⟨v1, vs1, d1, ds1, p1, q1, rfl, rfl, rfl, a1, r1⟩ := trodAll_cons r0
 obtain ⟨v2, vs2, d2, ds2, p2, q2, rfl, rfl, rfl, a2, r2⟩ := trodAll_cons r1
 obtain ⟨rfl, rfl, rfl⟩ := trodAll_nil r2
 obtain rfl : args = #[v0, v1, v2] := by cases args; simp_all
 obtain ⟨rfl, rfl⟩ := trodVars_none hV
 obtain ⟨w, e0⟩ := Abs.BZ (κ := []) (pv := Abs.aL (fun _ _ => False) [] []) Tryz.underlying29 (hval 0 29 v0 rfl rfl) a0 (Abs.Pq Abs.aK)
 obtain ⟨x, e1⟩ := Abs.BZ (κ := []) (pv := Abs.aL (fun _ _ => False) [] []) Tryz.underlying36 (hval 1 36 v1 rfl rfl) a1 (Abs.PY Abs.aK)
 obtain ⟨s, e2⟩ := Abs.BZ (κ := []) (pv := Abs.aL (fun _ _ => False) [] []) Tryz.underlying38 (hval 2 38 v2 rfl rfl) a2 (Abs.Px Abs.aK)
 have lt0 : ∀ x ∈ p0, x.block < W.heap.size := by obtain ⟨m, hm⟩ := a0; exact DataW.trod_lt m _ _ _ hm
 have lt1 : ∀ x ∈ p1, x.block < W.heap.size := by obtain ⟨m, hm⟩ := a1; exact DataW.trod_lt m _ _ _ hm
 have lt2 : ∀ x ∈ p2, x.block < W.heap.size := by obtain ⟨m, hm⟩ := a2; exact DataW.trod_lt m _ _ _ hm
 clear hA0 hval0
 have hcall := Abs.Vo (vs := [v0, v1, v2]) (w := W) (Lj w x s (Abs.P9 e0) (Abs.PE e1)) rfl (fun j hj => by
  match j, hj with
  | 0, _ => exact e0
  | 1, _ => exact e1
  | 2, _ => exact e2)
 refine hcall.mono fun e W' ⟨he, bel⟩ => ?_
 subst he
 exact ⟨_, rfl, _, _, _, [], _, [], hW', trodAll_mk1 (shut_bool Tryz.underlying4 _), (trodAll_cons_mk (Below.trod Abs.laidOut (by kernel_rfl) (of_decide_eq_true (by kernel_rfl)) a0 bel lt0) (trodAll_cons_mk (Below.trod Abs.laidOut (by kernel_rfl) (of_decide_eq_true (by kernel_rfl)) a1 bel lt1) (trodAll_cons_mk (Below.trod Abs.laidOut (by kernel_rfl) (of_decide_eq_true (by kernel_rfl)) a2 bel lt2) trodAll_mk0))), rfl, bel.frame _, fun h => by cases h⟩
theorem EvalHas_holds : Rows.EvalHasSaid :=
 OpenClaim.holds_of_wide 3 Tryz.f3 rfl rfl rfl rfl rfl rfl rfl ⟨rfl, rfl, rfl, rfl, rfl⟩ rfl rfl rfl rfl rfl Lp Tryz.func3 Ll Od L6
  (fun os started H enc _ => Jp os started H enc)
#print axioms EvalHas_holds
end Go.Proofs.YtkopaeklihhdlaaGreat
