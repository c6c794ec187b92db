/-
  TypingBinders holds: for all arguments the law returns true, and each argument reads afterwards as it read before. Conditions: none.
-/
import Derived.WalkKit
import Derived.OpenShut
import Derived.ShutString
import Derived.ChangeOld
import Derived.Test.YtiiaccpcoclklaaGreatCT26x683c2f
import Derived.Test.YtiiaccpcoclklaaGreatCU5xf4ca8f
import Derived.Test.YtiiaccpcoclklaaGreatCP10x2ee70b
import Derived.Test.YtiiaccpcoclklaaGreatCFTypingBindersxf91fff
set_option linter.unusedSimpArgs false
set_option linter.unusedVariables false
namespace Go.Proofs.YtiiaccpcoclklaaGreat
open Go Go.Proofs Go.ChangeShapes Go.WideShapes Go.ChangeAt Go.RowKit
open Go.ChangeMaps (open_string shut_string)
theorem own : ownKnob Tryz.prog.godebug = none := by kernel_rfl
set_option maxRecDepth 100000 in
theorem TypingBinders_calls (x : Abs.S_refinementlaw02_Binding) (h0 : Abs.BindS x) :
  Abs.ACalls Tryz.prog 13 [.agg (Abs.encS_refinementlaw02_Binding x)] [] (.bool true) [] := by
 obtain ⟨n, hn⟩ := Abs.law_TypingBinders x h0
 have := Abs.L2_TypingBinders_ok n x true (hn n (Nat.le_refl n))
 exact this
set_option maxRecDepth 100000 in
theorem TypingBinders_lifted (os : Os) (started : os.Started) (H : Type) (enc : TypeId × Value → H) :
  ReturnsInHanded {} Tryz.checked os 13 .any (Rows.typingBindersSpec.pre6 enc Tryz.prog Tryz.f13 Rows.typingBindersRow.domain false) (Rows.typingBindersSpec.post enc Tryz.prog Tryz.f13 false true false false) := by
 refine returnsInHanded_of_change (C := Tryz.checked) own started (by kernel_rfl) Tryz.func13
  (ChangeSpec.witness6 (enc := enc) (C := Tryz.checked) false ⟨#[], #[.agg #[.slice none 0 0, .slice none 0 0, .int .i64 0, .string ⟨#[]⟩, .int .i64 0, .int .i64 0, .string ⟨#[]⟩, .slice none 0 0, .slice none 0 0, .int .i64 0, .string ⟨#[]⟩, .int .i64 0, .int .i64 0, .string ⟨#[]⟩, .slice none 0 0, .slice none 0 0, .string ⟨#[]⟩]], []⟩ 8 (by kernel_rfl) (by kernel_rfl) (by kernel_rfl) (by kernel_rfl)) ?_
 intro W base args ds gs before hval0 hW hcnd _
 have hval : ∀ (j : Nat) t v, Tryz.f13.params[j]? = some t → args[j]? = some v → Value.okWide Tryz.prog W .any base t v := hval0
 have hW' := hW
 obtain ⟨p, q, hA0, hV, rfl, hfz, hnd⟩ := hW
 have hA : DataW.TrodAll enc Tryz.prog W 0 (fun _ => true) true Tryz.f13.params.toList args.toList ds p := hA0
 rw [Tryz.params13] at hA hval
 obtain ⟨v0, vs0, d0, ds0, p0, q0, hargs, rfl, rfl, a0, r0⟩ := trodAll_cons hA
 obtain ⟨rfl, rfl, rfl⟩ := trodAll_nil r0
 obtain rfl : args = #[v0] := by cases args; simp_all
 obtain ⟨rfl, rfl⟩ := trodVars_none hV
 obtain ⟨x, e0⟩ := Abs.reads_agg (κ := []) (pv := Abs.pvOf (fun _ _ => False) [] []) Tryz.underlying83 (hval 0 83 v0 rfl rfl) a0 (Abs.reads_bind Abs.pv0)
 have lt0 : ∀ x ∈ p0, x.block < W.heap.size := by obtain ⟨m, hm⟩ := a0; exact DataW.trod_lt m _ _ _ hm
 clear hA0 hval0
 have hcall := Abs.calls_of (vs := [v0]) (w := W) (TypingBinders_calls x (Abs.bind_short e0)) rfl (fun j hj => by
  match j, hj with
  | 0, _ => exact e0)
 refine hcall.mono fun e W' ⟨he, bel⟩ => ?_
 subst he
 exact ⟨_, rfl, _, _, _, [], _, [], hW', trodAll_mk1 (shut_bool Tryz.underlying4 _), (trodAll_cons_mk (Below.trod Abs.laidOut (by kernel_rfl) (of_decide_eq_true (by kernel_rfl)) a0 bel lt0) trodAll_mk0), rfl, bel.frame _, fun h => by cases h⟩
theorem TypingBinders_holds : Rows.TypingBindersSaid :=
 OpenClaim.holds_of_wide 13 Tryz.f13 rfl rfl rfl rfl rfl rfl rfl ⟨rfl, rfl, rfl, rfl, rfl⟩ rfl rfl rfl rfl rfl TypingBinders_named Tryz.func13 TypingBinders_facts TypingBinders_inst TypingBinders_wrap
  (fun os started H enc _ => TypingBinders_lifted os started H enc)
#print axioms TypingBinders_holds
end Go.Proofs.YtiiaccpcoclklaaGreat
