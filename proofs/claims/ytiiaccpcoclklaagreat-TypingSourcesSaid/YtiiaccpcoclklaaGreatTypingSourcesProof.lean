/-
  TypingSources holds: for all arguments the law returns true, and each argument reads afterwards as it read before. Conditions: none.
-/
import Derived.WalkKit
import Derived.OpenShut
import Derived.ShutString
import Derived.ChangeOld
import Derived.Test.YtiiaccpcoclklaaGreatCU2oxed0611
import Derived.Test.YtiiaccpcoclklaaGreatCU3oxed0611
import Derived.Test.YtiiaccpcoclklaaGreatCU4oxed0611
import Derived.Test.YtiiaccpcoclklaaGreatCS10oxec8236
import Derived.Test.YtiiaccpcoclklaaGreatCP49ox77bb5b
import Derived.Test.YtiiaccpcoclklaaGreatCFTypingSourcesox99c439
set_option linter.unusedSimpArgs false
set_option linter.unusedVariables false
namespace Go.Proofs.YtiiaccpcoclklaaGreat
open Go Go.Proofs Go.ChangeShapes Go.WideShapes Go.ChangeAt Go.RowKit
open Go.ChangeMaps (open_string shut_string)
theorem own : ownKnob Tryz.prog.godebug = none := by kernel_rfl
set_option maxRecDepth 100000 in
theorem RJ (env : Abs.Env) (t : Abs.Tm) (h0 : Abs.jd env) (h1 : Abs.gu t) :
  Abs.aB Tryz.prog 6 [.agg (Abs.rD env), .agg (Abs.aN t)] [] (.bool true) [] := by
 obtain ⟨n, hn⟩ := Abs.XQ env t h0 h1
 have := Abs.RF n env t true (hn n (Nat.le_refl n))
 simp only [Abs.aS]
 exact this
set_option maxRecDepth 100000 in
theorem Qf (os : Os) (started : os.Started) (H : Type) (enc : TypeId × Value → H) :
  ReturnsInHanded {} Tryz.checked os 6 .any (Rows.typingSourcesSpec.pre6 enc Tryz.prog Tryz.f6 Rows.typingSourcesRow.domain false) (Rows.typingSourcesSpec.post enc Tryz.prog Tryz.f6 false true false false) := by
 refine returnsInHanded_of_change (C := Tryz.checked) own started (by kernel_rfl) Tryz.func6
  (ChangeSpec.witness6 (enc := enc) (C := Tryz.checked) false ⟨#[], #[.agg #[.slice none 0 0, .slice none 0 0], .agg #[.int .i64 0, .string ⟨#[]⟩, .int .i64 0, .int .i64 0, .string ⟨#[]⟩, .slice none 0 0, .slice none 0 0]], []⟩ 8 (by kernel_rfl) (by kernel_rfl) (by kernel_rfl) (by kernel_rfl)) ?_
 intro W base args ds gs before hval0 hW hcnd _
 have hval : ∀ (j : Nat) t v, Tryz.f6.params[j]? = some t → args[j]? = some v → Value.okWide Tryz.prog W .any base t v := hval0
 have hW' := hW
 obtain ⟨p, q, hA0, hV, rfl, hfz, hnd⟩ := hW
 have hA : DataW.TrodAll enc Tryz.prog W 0 (fun _ => true) true Tryz.f6.params.toList args.toList ds p := hA0
 rw [Tryz.params6] at hA hval
 obtain ⟨v0, vs0, d0, ds0, p0, q0, hargs, rfl, rfl, a0, r0⟩ := trodAll_cons hA
 obtain ⟨v1, vs1, d1, ds1, p1, q1, rfl, rfl, rfl, a1, r1⟩ := trodAll_cons r0
 obtain ⟨rfl, rfl, rfl⟩ := trodAll_nil r1
 obtain rfl : args = #[v0, v1] := by cases args; simp_all
 obtain ⟨rfl, rfl⟩ := trodVars_none hV
 obtain ⟨env, e0⟩ := Abs.fM (κ := []) (pv := Abs.bB (fun _ _ => False) [] []) Tryz.underlying25 (hval 0 25 v0 rfl rfl) a0 (Abs.nX Abs.bH)
 obtain ⟨t, e1⟩ := Abs.fM (κ := []) (pv := Abs.bB (fun _ _ => False) [] []) Tryz.underlying31 (hval 1 31 v1 rfl rfl) a1 (Abs.tK Abs.bH)
 have lt0 : ∀ x ∈ p0, x.block < W.heap.size := by obtain ⟨m, hm⟩ := a0; exact DataW.trod_lt m _ _ _ hm
 have lt1 : ∀ x ∈ p1, x.block < W.heap.size := by obtain ⟨m, hm⟩ := a1; exact DataW.trod_lt m _ _ _ hm
 clear hA0 hval0
 have hcall := Abs.tC (vs := [v0, v1]) (w := W) (RJ env t (Abs.lg e0) (Abs.yX e1)) rfl (fun j hj => by
  match j, hj with
  | 0, _ => exact e0
  | 1, _ => exact e1)
 refine hcall.mono fun e W' ⟨he, bel⟩ => ?_
 subst he
 exact ⟨_, rfl, _, _, _, [], _, [], hW', trodAll_mk1 (shut_bool Tryz.underlying4 _), (trodAll_cons_mk (Below.trod Abs.laidOut (by kernel_rfl) (of_decide_eq_true (by kernel_rfl)) a0 bel lt0) (trodAll_cons_mk (Below.trod Abs.laidOut (by kernel_rfl) (of_decide_eq_true (by kernel_rfl)) a1 bel lt1) trodAll_mk0)), rfl, bel.frame _, fun h => by cases h⟩
theorem TypingSources_holds : Rows.TypingSourcesSaid :=
 OpenClaim.holds_of_wide 6 Tryz.f6 rfl rfl rfl rfl rfl rfl rfl ⟨rfl, rfl, rfl, rfl, rfl⟩ rfl rfl rfl rfl rfl Rx Tryz.func6 R5 Uf Tv
  (fun os started H enc _ => Qf os started H enc)
#print axioms TypingSources_holds
end Go.Proofs.YtiiaccpcoclklaaGreat
