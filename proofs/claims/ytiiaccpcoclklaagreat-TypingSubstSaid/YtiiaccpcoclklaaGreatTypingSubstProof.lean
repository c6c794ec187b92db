/-
  TypingSubst holds: for all arguments the law returns true, and each argument reads afterwards as it read before. Conditions: none.
-/
import Derived.WalkKit
import Derived.OpenShut
import Derived.ShutString
import Derived.ChangeOld
import Derived.Test.YtiiaccpcoclklaaGreatCW4x7ce35f
import Derived.Test.YtiiaccpcoclklaaGreatCP6xdd401a
import Derived.Test.YtiiaccpcoclklaaGreatCP28xa7a18b
import Derived.Test.YtiiaccpcoclklaaGreatCFTypingSubstx9f51fa
set_option linter.unusedSimpArgs false
set_option linter.unusedVariables false
namespace Go.Proofs.YtiiaccpcoclklaaGreat
open Go Go.Proofs Go.ChangeShapes Go.WideShapes Go.ChangeAt Go.RowKit
open Go.ChangeMaps (open_string shut_string)
theorem own : ownKnob Tryz.prog.godebug = none := by kernel_rfl
set_option maxRecDepth 100000 in
theorem Pq (env : Abs.Env) (t : Abs.Tm) (u : Abs.Tm) (h0 : Abs.jT env) (h1 : Abs.fB t) (h2 : Abs.fB u) :
  Abs.aA Tryz.prog 7 [.agg (Abs.oQ env), .agg (Abs.aO t), .agg (Abs.aO u)] [] (.bool true) [] := by
 obtain ⟨n, hn⟩ := Abs.Uz env t u h0 h1 h2
 have := Abs.P9 n env t u true (hn n (Nat.le_refl n))
 simp only [Abs.aR]
 exact this
set_option maxRecDepth 100000 in
theorem Na (os : Os) (started : os.Started) (H : Type) (enc : TypeId × Value → H) :
  ReturnsInHanded {} Tryz.checked os 7 .any (Rows.typingSubstSpec.pre6 enc Tryz.prog Tryz.f7 Rows.typingSubstRow.domain false) (Rows.typingSubstSpec.post enc Tryz.prog Tryz.f7 false true false false) := by
 refine returnsInHanded_of_change (C := Tryz.checked) own started (by kernel_rfl) Tryz.func7
  (ChangeSpec.witness6 (enc := enc) (C := Tryz.checked) false ⟨#[], #[.agg #[.slice none 0 0, .slice none 0 0], .agg #[.int .i64 0, .string ⟨#[]⟩, .int .i64 0, .int .i64 0, .string ⟨#[]⟩, .slice none 0 0, .slice none 0 0], .agg #[.int .i64 0, .string ⟨#[]⟩, .int .i64 0, .int .i64 0, .string ⟨#[]⟩, .slice none 0 0, .slice none 0 0]], []⟩ 8 (by kernel_rfl) (by kernel_rfl) (by kernel_rfl) (by kernel_rfl)) ?_
 intro W base args ds gs before hval0 hW hcnd _
 have hval : ∀ (j : Nat) t v, Tryz.f7.params[j]? = some t → args[j]? = some v → Value.okWide Tryz.prog W .any base t v := hval0
 have hW' := hW
 obtain ⟨p, q, hA0, hV, rfl, hfz, hnd⟩ := hW
 have hA : DataW.TrodAll enc Tryz.prog W 0 (fun _ => true) true Tryz.f7.params.toList args.toList ds p := hA0
 rw [Tryz.params7] at hA hval
 obtain ⟨v0, vs0, d0, ds0, p0, q0, hargs, rfl, rfl, a0, r0⟩ := trodAll_cons hA
 obtain ⟨v1, vs1, d1, ds1, p1, q1, rfl, rfl, rfl, a1, r1⟩ := trodAll_cons r0
 obtain ⟨v2, vs2, d2, ds2, p2, q2, rfl, rfl, rfl, a2, r2⟩ := trodAll_cons r1
 obtain ⟨rfl, rfl, rfl⟩ := trodAll_nil r2
 obtain rfl : args = #[v0, v1, v2] := by cases args; simp_all
 obtain ⟨rfl, rfl⟩ := trodVars_none hV
 obtain ⟨env, e0⟩ := Abs.eX (κ := []) (pv := Abs.aX (fun _ _ => False) [] []) Tryz.underlying25 (hval 0 25 v0 rfl rfl) a0 (Abs.mF Abs.bq)
 obtain ⟨t, e1⟩ := Abs.eX (κ := []) (pv := Abs.aX (fun _ _ => False) [] []) Tryz.underlying31 (hval 1 31 v1 rfl rfl) a1 (Abs.ru Abs.bq)
 obtain ⟨u, e2⟩ := Abs.eX (κ := []) (pv := Abs.aX (fun _ _ => False) [] []) Tryz.underlying31 (hval 2 31 v2 rfl rfl) a2 (Abs.ru Abs.bq)
 have lt0 : ∀ x ∈ p0, x.block < W.heap.size := by obtain ⟨m, hm⟩ := a0; exact DataW.trod_lt m _ _ _ hm
 have lt1 : ∀ x ∈ p1, x.block < W.heap.size := by obtain ⟨m, hm⟩ := a1; exact DataW.trod_lt m _ _ _ hm
 have lt2 : ∀ x ∈ p2, x.block < W.heap.size := by obtain ⟨m, hm⟩ := a2; exact DataW.trod_lt m _ _ _ hm
 clear hA0 hval0
 have hcall := Abs.rC (vs := [v0, v1, v2]) (w := W) (Pq env t u (Abs.kP e0) (Abs.wY e1) (Abs.wY e2)) rfl (fun j hj => by
  match j, hj with
  | 0, _ => exact e0
  | 1, _ => exact e1
  | 2, _ => exact e2)
 refine hcall.mono fun e W' ⟨he, bel⟩ => ?_
 subst he
 exact ⟨_, rfl, _, _, _, [], _, [], hW', trodAll_mk1 (shut_bool Tryz.underlying4 _), (trodAll_cons_mk (Below.trod Abs.laidOut (by kernel_rfl) (of_decide_eq_true (by kernel_rfl)) a0 bel lt0) (trodAll_cons_mk (Below.trod Abs.laidOut (by kernel_rfl) (of_decide_eq_true (by kernel_rfl)) a1 bel lt1) (trodAll_cons_mk (Below.trod Abs.laidOut (by kernel_rfl) (of_decide_eq_true (by kernel_rfl)) a2 bel lt2) trodAll_mk0))), rfl, bel.frame _, fun h => by cases h⟩
theorem TypingSubst_holds : Rows.TypingSubstSaid :=
 OpenClaim.holds_of_wide 7 Tryz.f7 rfl rfl rfl rfl rfl rfl rfl ⟨rfl, rfl, rfl, rfl, rfl⟩ rfl rfl rfl rfl rfl QM Tryz.func7 QS R7 SQ
  (fun os started H enc _ => Na os started H enc)
#print axioms TypingSubst_holds
end Go.Proofs.YtiiaccpcoclklaaGreat
