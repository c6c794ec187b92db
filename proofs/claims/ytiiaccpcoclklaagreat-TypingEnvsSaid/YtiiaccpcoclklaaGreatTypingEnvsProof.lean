/-
  TypingEnvs holds: for every environment, name and type the law returns true, and each argument reads afterwards as it read before. Conditions: none.
-/
import Derived.Test.YtiiaccpcoclklaaGreatBTypingEnvsProof12
import Derived.Test.YtiiaccpcoclklaaGreatBTypingEnvsProof13
import Derived.WalkKit
import Derived.OpenShut
import Derived.ShutString
import Derived.ChangeOld
set_option linter.unusedSimpArgs false
set_option linter.unusedVariables false
namespace Go.Proofs.YtiiaccpcoclklaaGreat
open Go Go.Proofs Go.ChangeShapes Go.WideShapes Go.ChangeAt Go.RowKit
open Go.ChangeMaps (open_string shut_string)

theorem own : ownKnob Tryz.prog.godebug = none := by kernel_rfl

set_option maxRecDepth 100000 in
theorem TypingEnvs_calls (env : Abs.Env) (s : Abs.Str) (t : Abs.Ty) (hs : ∀ d ∈ env.names, d.name.length ≤ 9223372036854775807) (hs2 : s.length ≤ 9223372036854775807) :
    Abs.ACalls Tryz.prog 12 [.agg (Abs.encEnv env), .str s, .agg (Abs.encTy t)] [] (.bool true) [] := by
  obtain ⟨n, hn⟩ := Abs.law_TypingEnvs env s t hs hs2
  have := Abs.L2_TypingEnvs_ok n env s t true (hn n (Nat.le_refl n))
  rw [Abs.encTy_eq]
  exact this

set_option maxRecDepth 100000 in
theorem TypingEnvs_lifted (os : Os) (started : os.Started) (H : Type) (enc : TypeId × Value → H) :
    ReturnsInHanded {} Tryz.checked os 12 .any (Rows.typingEnvsSpec.pre6 enc Tryz.prog Tryz.f12 Rows.typingEnvsRow.domain false) (Rows.typingEnvsSpec.post enc Tryz.prog Tryz.f12 false true false false) := by
  refine returnsInHanded_of_change (C := Tryz.checked) own started (by kernel_rfl) Tryz.func12
    (ChangeSpec.witness6 (enc := enc) (C := Tryz.checked) false ⟨#[], #[.agg #[.slice none 0 0, .slice none 0 0], .string ⟨#[]⟩, .agg #[.int .i64 0, .string ⟨#[]⟩, .slice none 0 0]], []⟩ 8 (by kernel_rfl) (by kernel_rfl) (by kernel_rfl) (by kernel_rfl)) ?_
  intro W base args ds gs before hval0 hW hcnd _
  have hval : ∀ (j : Nat) t v, Tryz.f12.params[j]? = some t → args[j]? = some v → Value.okWide Tryz.prog W .any base t v := hval0
  have hW' := hW
  obtain ⟨p, q, hA0, hV, rfl, hfz, hnd⟩ := hW
  have hA : DataW.TrodAll enc Tryz.prog W 0 (fun _ => true) true Tryz.f12.params.toList args.toList ds p := hA0
  rw [Tryz.params12] at hA hval
  obtain ⟨v0, vs0, d0, ds0, p0, q0, hargs, rfl, rfl, h0, r0⟩ := trodAll_cons hA
  obtain ⟨v1, vs1, d1, ds1, p1, q1, rfl, rfl, rfl, h1, r1⟩ := trodAll_cons r0
  obtain ⟨v2, vs2, d2, ds2, p2, q2, rfl, rfl, rfl, h2, r2⟩ := trodAll_cons r1
  obtain ⟨rfl, rfl, rfl⟩ := trodAll_nil r2
  obtain rfl : args = #[v0, v1, v2] := by cases args; simp_all
  obtain ⟨rfl, rfl⟩ := trodVars_none hV
  obtain ⟨env, henv⟩ := Abs.reads_agg (κ := []) (pv := Abs.pvOf (fun _ _ => False) [] []) Tryz.underlying25 (hval 0 25 v0 rfl rfl) h0 (Abs.reads_env Abs.pv0)
  obtain ⟨s, hs, hsr⟩ := Abs.reads_string (κ := []) (pv := Abs.pvOf (fun _ _ => False) [] []) (hval 1 9 v1 rfl rfl) h1
  obtain ⟨t, ht⟩ := Abs.reads_agg (κ := []) (pv := Abs.pvOf (fun _ _ => False) [] []) Tryz.underlying28 (hval 2 28 v2 rfl rfl) h2 (Abs.reads_ty Abs.pv0)
  have lt0 : ∀ x ∈ p0, x.block < W.heap.size := by obtain ⟨m, hm⟩ := h0; exact DataW.trod_lt m _ _ _ hm
  have lt1 : ∀ x ∈ p1, x.block < W.heap.size := by obtain ⟨m, hm⟩ := h1; exact DataW.trod_lt m _ _ _ hm
  have lt2 : ∀ x ∈ p2, x.block < W.heap.size := by obtain ⟨m, hm⟩ := h2; exact DataW.trod_lt m _ _ _ hm
  clear hA0 hval0
  have hcall := Abs.calls_of (vs := [v0, v1, v2]) (w := W) (TypingEnvs_calls env s t (Abs.names_short henv) hs) rfl (fun j hj => by
    match j, hj with
    | 0, _ => exact henv
    | 1, _ => exact hsr
    | 2, _ => exact ht)
  refine hcall.mono fun e W' ⟨he, bel⟩ => ?_
  subst he
  exact ⟨_, rfl, _, _, _, [], _, [], hW', trodAll_mk1 (shut_bool Tryz.underlying4 _), (trodAll_cons_mk (Below.trod Abs.laidOut (by kernel_rfl) (of_decide_eq_true (by kernel_rfl)) h0 bel lt0) (trodAll_cons_mk (Below.trod Abs.laidOut (by kernel_rfl) (of_decide_eq_true (by kernel_rfl)) h1 bel lt1) (trodAll_cons_mk (Below.trod Abs.laidOut (by kernel_rfl) (of_decide_eq_true (by kernel_rfl)) h2 bel lt2) trodAll_mk0))), rfl, bel.frame _, fun h => by cases h⟩

/-- THE STATEMENT -/
theorem TypingEnvs_holds : Rows.TypingEnvsSaid :=
  OpenClaim.holds_of_wide 12 Tryz.f12 rfl rfl rfl rfl rfl rfl rfl ⟨rfl, rfl, rfl, rfl, rfl⟩ rfl rfl rfl rfl rfl TypingEnvs_named Tryz.func12 TypingEnvs_facts TypingEnvs_inst TypingEnvs_wrap
    (fun os started H enc _ => TypingEnvs_lifted os started H enc)
#print axioms TypingEnvs_holds
end Go.Proofs.YtiiaccpcoclklaaGreat
