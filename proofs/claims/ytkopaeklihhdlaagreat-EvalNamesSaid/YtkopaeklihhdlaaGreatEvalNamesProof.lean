/-
  EvalNames holds: for all arguments the law returns true, and each argument reads afterwards as it read before. Conditions: none.
-/
import Derived.WalkKit
import Derived.OpenShut
import Derived.ShutString
import Derived.ChangeOld
import Derived.Test.YtkopaeklihhdlaaGreatCJ5oxe0adec
import Derived.Test.YtkopaeklihhdlaaGreatCG1ox44890b
import Derived.Test.YtkopaeklihhdlaaGreatCP52oxc070d0
import Derived.Test.YtkopaeklihhdlaaGreatCFEvalNamesoxf6401a
set_option linter.unusedSimpArgs false
set_option linter.unusedVariables false
namespace Go.Proofs.YtkopaeklihhdlaaGreat
open Go Go.Proofs Go.ChangeShapes Go.WideShapes Go.ChangeAt Go.RowKit
open Go.ChangeMaps (open_string shut_string)
theorem own : ownKnob Tryz.prog.godebug = none := by kernel_rfl
set_option maxRecDepth 100000 in
theorem LH (w : Abs.S_api_World) (s : Abs.Str) (v : Abs.Val) (h0 : (∀ d ∈ w.env.names, d.name.length ≤ 9223372036854775807) ∧ ∀ v ∈ w.values, Abs.dX v) (h1 : s.length ≤ 9223372036854775807) (h2 : Abs.dX v) :
  Abs.au Tryz.prog 4 [.agg (Abs.gT w), .str s, .agg (Abs.aj v)] [] (.bool true) [] := by
 obtain ⟨n, hn⟩ := Abs.Ro w s v h0.1 h0.2 h2
 have := Abs.Ls n w s v true (hn n (Nat.le_refl n))
 simp only [Abs.bg]
 exact this
set_option maxRecDepth 100000 in
theorem Kl (os : Os) (started : os.Started) (H : Type) (enc : TypeId × Value → H) :
  ReturnsInHanded {} Tryz.checked os 4 .any (Rows.evalNamesSpec.pre6 enc Tryz.prog Tryz.f4 Rows.evalNamesRow.domain false) (Rows.evalNamesSpec.post enc Tryz.prog Tryz.f4 false true false false) := by
 refine returnsInHanded_of_change (C := Tryz.checked) own started (by kernel_rfl) Tryz.func4
  (ChangeSpec.witness6 (enc := enc) (C := Tryz.checked) false ⟨#[], #[.agg #[.slice none 0 0, .slice none 0 0, .slice none 0 0, .slice none 0 0], .string ⟨#[]⟩, .agg #[.int .i64 0, .int .i64 0, .string ⟨#[]⟩, .slice none 0 0]], []⟩ 8 (by kernel_rfl) (by kernel_rfl) (by kernel_rfl) (by kernel_rfl)) ?_
 intro W base args ds gs before hval0 hW hcnd _
 have hval : ∀ (j : Nat) t v, Tryz.f4.params[j]? = some t → args[j]? = some v → Value.okWide Tryz.prog W .any base t v := hval0
 have hW' := hW
 obtain ⟨p, q, hA0, hV, rfl, hfz, hnd⟩ := hW
 have hA : DataW.TrodAll enc Tryz.prog W 0 (fun _ => true) true Tryz.f4.params.toList args.toList ds p := hA0
 rw [Tryz.params4] at hA hval
 obtain ⟨v0, vs0, d0, ds0, p0, q0, hargs, rfl, rfl, a0, r0⟩ := trodAll_cons hA
 obtain ⟨v1, vs1, d1, ds1, p1, q1, rfl, rfl, rfl, a1, r1⟩ := trodAll_cons r0
 obtain ⟨v2, vs2, d2, ds2, p2, q2, rfl, rfl, rfl, a2, r2⟩ := trodAll_cons r1
 obtain ⟨rfl, rfl, rfl⟩ := trodAll_nil r2
 obtain rfl : args = #[v0, v1, v2] := by cases args; simp_all
 obtain ⟨rfl, rfl⟩ := trodVars_none hV
 obtain ⟨w, e0⟩ := Abs.yE (κ := []) (pv := Abs.aO (fun _ _ => False) [] []) Tryz.underlying29 (hval 0 29 v0 rfl rfl) a0 (Abs.JH Abs.aN)
 obtain ⟨s, s1, e1⟩ := Abs.Uj (κ := []) (pv := Abs.aO (fun _ _ => False) [] []) (hval 1 9 v1 rfl rfl) a1
 obtain ⟨v, e2⟩ := Abs.yE (κ := []) (pv := Abs.aO (fun _ _ => False) [] []) Tryz.underlying31 (hval 2 31 v2 rfl rfl) a2 (Abs.Gz Abs.aN)
 have lt0 : ∀ x ∈ p0, x.block < W.heap.size := by obtain ⟨m, hm⟩ := a0; exact DataW.trod_lt m _ _ _ hm
 have lt1 : ∀ x ∈ p1, x.block < W.heap.size := by obtain ⟨m, hm⟩ := a1; exact DataW.trod_lt m _ _ _ hm
 have lt2 : ∀ x ∈ p2, x.block < W.heap.size := by obtain ⟨m, hm⟩ := a2; exact DataW.trod_lt m _ _ _ hm
 clear hA0 hval0
 have hcall := Abs.DV (vs := [v0, v1, v2]) (w := W) (LH w s v (Abs.Jw e0) s1 (Abs.vK e2)) rfl (fun j hj => by
  match j, hj with
  | 0, _ => exact e0
  | 1, _ => exact e1
  | 2, _ => exact e2)
 refine hcall.mono fun e W' ⟨he, bel⟩ => ?_
 subst he
 exact ⟨_, rfl, _, _, _, [], _, [], hW', trodAll_mk1 (shut_bool Tryz.underlying4 _), (trodAll_cons_mk (Below.trod Abs.laidOut (by kernel_rfl) (of_decide_eq_true (by kernel_rfl)) a0 bel lt0) (trodAll_cons_mk (Below.trod Abs.laidOut (by kernel_rfl) (of_decide_eq_true (by kernel_rfl)) a1 bel lt1) (trodAll_cons_mk (Below.trod Abs.laidOut (by kernel_rfl) (of_decide_eq_true (by kernel_rfl)) a2 bel lt2) trodAll_mk0))), rfl, bel.frame _, fun h => by cases h⟩
theorem EvalNames_holds : Rows.EvalNamesSaid :=
 OpenClaim.holds_of_wide 4 Tryz.f4 rfl rfl rfl rfl rfl rfl rfl ⟨rfl, rfl, rfl, rfl, rfl⟩ rfl rfl rfl rfl rfl LM Tryz.func4 Ms Oc Nf
  (fun os started H enc _ => Kl os started H enc)
#print axioms EvalNames_holds
end Go.Proofs.YtkopaeklihhdlaaGreat
