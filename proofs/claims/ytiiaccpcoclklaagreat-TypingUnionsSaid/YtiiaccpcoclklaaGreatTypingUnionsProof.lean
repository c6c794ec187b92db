/-
  TypingUnions holds: for every two environments the law returns true, and each argument reads afterwards as it read before. Conditions: none.
-/
import Derived.Test.YtiiaccpcoclklaaGreatBTypingUnionsProof15
import Derived.WalkKit
import Derived.OpenShut
import Derived.ShutString
import Derived.ChangeOld
set_option linter.unusedSimpArgs false
set_option linter.unusedVariables false
namespace Go.Proofs.YtiiaccpcoclklaaGreat
open Go Go.Proofs Go.ChangeShapes Go.WideShapes Go.ChangeAt Go.RowKit
open Go.ChangeMaps (open_string shut_string)

theorem own : ownKnob Tryz.prog.godebug = none := by kernel_rfl

set_option maxRecDepth 100000 in
theorem TypingUnions_calls (a b : Abs.Env) (hsa : ∀ d ∈ a.names, d.name.length ≤ 9223372036854775807) (hsb : ∀ d ∈ b.names, d.name.length ≤ 9223372036854775807) :
    Abs.ACalls Tryz.prog 15 [.agg (Abs.encEnv a), .agg (Abs.encEnv b)] [] (.bool true) [] := by
  obtain ⟨n, hn⟩ := Abs.law_TypingUnions a b hsa hsb
  exact Abs.L2_TypingUnions_ok n a b true (hn n (Nat.le_refl n))

set_option maxRecDepth 100000 in
theorem TypingUnions_lifted (os : Os) (started : os.Started) (H : Type) (enc : TypeId × Value → H) :
    ReturnsInHanded {} Tryz.checked os 15 .any (Rows.typingUnionsSpec.pre6 enc Tryz.prog Tryz.f15 Rows.typingUnionsRow.domain false) (Rows.typingUnionsSpec.post enc Tryz.prog Tryz.f15 false true false false) := by
  refine returnsInHanded_of_change (C := Tryz.checked) own started (by kernel_rfl) Tryz.func15
    (ChangeSpec.witness6 (enc := enc) (C := Tryz.checked) false ⟨#[], #[.agg #[.slice none 0 0, .slice none 0 0], .agg #[.slice none 0 0, .slice none 0 0]], []⟩ 8 (by kernel_rfl) (by kernel_rfl) (by kernel_rfl) (by kernel_rfl)) ?_
  intro W base args ds gs before hval0 hW hcnd _
  have hval : ∀ (j : Nat) t v, Tryz.f15.params[j]? = some t → args[j]? = some v → Value.okWide Tryz.prog W .any base t v := hval0
  have hW' := hW
  obtain ⟨p, q, hA0, hV, rfl, hfz, hnd⟩ := hW
  have hA : DataW.TrodAll enc Tryz.prog W 0 (fun _ => true) true Tryz.f15.params.toList args.toList ds p := hA0
  rw [Tryz.params15] at hA hval
  obtain ⟨v0, vs0, d0, ds0, p0, q0, hargs, rfl, rfl, h0, r0⟩ := trodAll_cons hA
  obtain ⟨v1, vs1, d1, ds1, p1, q1, rfl, rfl, rfl, h1, r1⟩ := trodAll_cons r0
  obtain ⟨rfl, rfl, rfl⟩ := trodAll_nil r1
  obtain rfl : args = #[v0, v1] := by cases args; simp_all
  obtain ⟨rfl, rfl⟩ := trodVars_none hV
  obtain ⟨a, har⟩ := Abs.reads_agg (κ := []) (pv := Abs.pvOf (fun _ _ => False) [] []) Tryz.underlying25 (hval 0 25 v0 rfl rfl) h0 (Abs.reads_env Abs.pv0)
  obtain ⟨b, hbr⟩ := Abs.reads_agg (κ := []) (pv := Abs.pvOf (fun _ _ => False) [] []) Tryz.underlying25 (hval 1 25 v1 rfl rfl) h1 (Abs.reads_env Abs.pv0)
  have lt0 : ∀ x ∈ p0, x.block < W.heap.size := by obtain ⟨m, hm⟩ := h0; exact DataW.trod_lt m _ _ _ hm
  have lt1 : ∀ x ∈ p1, x.block < W.heap.size := by obtain ⟨m, hm⟩ := h1; exact DataW.trod_lt m _ _ _ hm
  clear hA0 hval0
  have hcall := Abs.calls_of (vs := [v0, v1]) (w := W) (TypingUnions_calls a b (Abs.names_short har) (Abs.names_short hbr)) rfl (fun j hj => by
    match j, hj with
    | 0, _ => exact har
    | 1, _ => exact hbr)
  refine hcall.mono fun e W' ⟨he, bel⟩ => ?_
  subst he
  exact ⟨_, rfl, _, _, _, [], _, [], hW', trodAll_mk1 (shut_bool Tryz.underlying4 _), (trodAll_cons_mk (Below.trod Abs.laidOut (by kernel_rfl) (of_decide_eq_true (by kernel_rfl)) h0 bel lt0) (trodAll_cons_mk (Below.trod Abs.laidOut (by kernel_rfl) (of_decide_eq_true (by kernel_rfl)) h1 bel lt1) trodAll_mk0)), rfl, bel.frame _, fun h => by cases h⟩

/-- THE STATEMENT -/
theorem TypingUnions_holds : Rows.TypingUnionsSaid :=
  OpenClaim.holds_of_wide 15 Tryz.f15 rfl rfl rfl rfl rfl rfl rfl ⟨rfl, rfl, rfl, rfl, rfl⟩ rfl rfl rfl rfl rfl TypingUnions_named Tryz.func15 TypingUnions_facts TypingUnions_inst TypingUnions_wrap
    (fun os started H enc _ => TypingUnions_lifted os started H enc)
#print axioms TypingUnions_holds
end Go.Proofs.YtiiaccpcoclklaaGreat
