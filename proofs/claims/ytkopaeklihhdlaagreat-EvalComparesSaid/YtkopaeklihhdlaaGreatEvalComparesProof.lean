/-
  EvalCompares holds: for all arguments the law returns true, and each argument reads afterwards as it read before. Conditions: none.
-/
import Derived.WalkKit
import Derived.OpenShut
import Derived.ShutString
import Derived.ChangeOld
import Derived.Test.YtkopaeklihhdlaaGreatCH1oxca0bc0
import Derived.Test.YtkopaeklihhdlaaGreatCG7ox2ba1a9
import Derived.Test.YtkopaeklihhdlaaGreatCFEvalComparesoxc58d0e
set_option linter.unusedSimpArgs false
set_option linter.unusedVariables false
namespace Go.Proofs.YtkopaeklihhdlaaGreat
open Go Go.Proofs Go.ChangeShapes Go.WideShapes Go.ChangeAt Go.RowKit
open Go.ChangeMaps (open_string shut_string)
theorem own : ownKnob Tryz.prog.godebug = none := by kernel_rfl
set_option maxRecDepth 100000 in
theorem E8 (a : Abs.Val) (b : Abs.Val) (l : List Abs.Val) (h0 : Abs.eY a ∧ Abs.fQ a) (h1 : Abs.eY b ∧ Abs.fQ b) (h2 : (l.length ≤ 9223372036854775807 ∧ ∀ v ∈ l, Abs.eY v) ∧ ∀ v ∈ l, Abs.fQ v) :
  Abs.ak Tryz.prog 6 [.agg (Abs.ah a), .agg (Abs.ah b), .slice (List.map Abs.ah l) .shared] [] (.bool true) [] := by
 obtain ⟨n, hn⟩ := Abs.Iq a b l h0.1 h2.1.2 h2.2
 have := Abs.EA n a b l true (hn n (Nat.le_refl n))
 simp only [Abs.bf]
 exact this
set_option maxRecDepth 100000 in
theorem Dq (os : Os) (started : os.Started) (H : Type) (enc : TypeId × Value → H) :
  ReturnsInHanded {} Tryz.checked os 6 .any (Rows.evalComparesSpec.pre6 enc Tryz.prog Tryz.f6 Rows.evalComparesRow.domain false) (Rows.evalComparesSpec.post enc Tryz.prog Tryz.f6 false true false false) := by
 refine returnsInHanded_of_change_sized (C := Tryz.checked) own started (by kernel_rfl) Tryz.func6
  (ChangeSpec.witness6 (enc := enc) (C := Tryz.checked) false ⟨#[], #[.agg #[.int .i64 0, .int .i64 0, .string ⟨#[]⟩, .slice none 0 0], .agg #[.int .i64 0, .int .i64 0, .string ⟨#[]⟩, .slice none 0 0], .slice none 0 0], []⟩ 8 (by kernel_rfl) (by kernel_rfl) (by kernel_rfl) (by kernel_rfl)) ?_
 intro W base args ds gs before hval0 hW hcnd hz0 _
 have hz := List.all_eq_true.1 hz0
 have hval : ∀ (j : Nat) t v, Tryz.f6.params[j]? = some t → args[j]? = some v → Value.okWide Tryz.prog W .any base t v := hval0
 have hW' := hW
 obtain ⟨p, q, hA0, hV, rfl, hfz, hnd⟩ := hW
 have hA : DataW.TrodAll enc Tryz.prog W 0 (fun _ => true) true Tryz.f6.params.toList args.toList ds p := hA0
 rw [Tryz.params6] at hA hval hz
 obtain ⟨v0, vs0, d0, ds0, p0, q0, hargs, rfl, rfl, a0, r0⟩ := trodAll_cons hA
 obtain ⟨v1, vs1, d1, ds1, p1, q1, rfl, rfl, rfl, a1, r1⟩ := trodAll_cons r0
 obtain ⟨v2, vs2, d2, ds2, p2, q2, rfl, rfl, rfl, a2, r2⟩ := trodAll_cons r1
 obtain ⟨rfl, rfl, rfl⟩ := trodAll_nil r2
 obtain rfl : args = #[v0, v1, v2] := by cases args; simp_all
 obtain ⟨rfl, rfl⟩ := trodVars_none hV
 have w0 : Abs.vE Tryz.prog 31 d0 := fun m hm => of_decide_eq_true (hz m (DataW.weights_mem_each (j := 0) rfl rfl m hm))
 obtain ⟨a, e0, g0⟩ := Abs.uD (κ := []) (pv := Abs.aM (fun _ _ => False) [] []) Tryz.underlying31 (hval 0 31 v0 rfl rfl) a0 w0 (Abs.rF Abs.aL)
 have w1 : Abs.vE Tryz.prog 31 d1 := fun m hm => of_decide_eq_true (hz m (DataW.weights_mem_each (j := 1) rfl rfl m hm))
 obtain ⟨b, e1, g1⟩ := Abs.uD (κ := []) (pv := Abs.aM (fun _ _ => False) [] []) Tryz.underlying31 (hval 1 31 v1 rfl rfl) a1 w1 (Abs.rF Abs.aL)
 have w2 : Abs.vE Tryz.prog 27 d2 := fun m hm => of_decide_eq_true (hz m (DataW.weights_mem_each (j := 2) rfl rfl m hm))
 obtain ⟨l, e2, g2⟩ := Abs.TN (κ := []) (pv := Abs.aM (fun _ _ => False) [] []) (hval 2 27 v2 rfl rfl) a2 w2 Abs.aL
 have lt0 : ∀ x ∈ p0, x.block < W.heap.size := by obtain ⟨m, hm⟩ := a0; exact DataW.trod_lt m _ _ _ hm
 have lt1 : ∀ x ∈ p1, x.block < W.heap.size := by obtain ⟨m, hm⟩ := a1; exact DataW.trod_lt m _ _ _ hm
 have lt2 : ∀ x ∈ p2, x.block < W.heap.size := by obtain ⟨m, hm⟩ := a2; exact DataW.trod_lt m _ _ _ hm
 clear hA0 hval0
 have hcall := Abs.IL (vs := [v0, v1, v2]) (w := W) (E8 a b l ⟨Abs.wH e0, g0⟩ ⟨Abs.wH e1, g1⟩ ⟨Abs.G8 e2, g2⟩) rfl (fun j hj => by
  match j, hj with
  | 0, _ => exact e0
  | 1, _ => exact e1
  | 2, _ => exact e2)
 refine hcall.mono fun e W' ⟨he, bel⟩ => ?_
 subst he
 exact ⟨_, rfl, _, _, _, [], _, [], hW', trodAll_mk1 (shut_bool Tryz.underlying4 _), (trodAll_cons_mk (Below.trod Abs.laidOut (by kernel_rfl) (of_decide_eq_true (by kernel_rfl)) a0 bel lt0) (trodAll_cons_mk (Below.trod Abs.laidOut (by kernel_rfl) (of_decide_eq_true (by kernel_rfl)) a1 bel lt1) (trodAll_cons_mk (Below.trod Abs.laidOut (by kernel_rfl) (of_decide_eq_true (by kernel_rfl)) a2 bel lt2) trodAll_mk0))), rfl, bel.frame _, fun h => by cases h⟩
theorem EvalCompares_holds : Rows.EvalComparesSaid :=
 OpenClaim.holds_of_wide 6 Tryz.f6 rfl rfl rfl rfl rfl rfl rfl ⟨rfl, rfl, rfl, rfl, rfl⟩ rfl rfl rfl rfl rfl Fe Tryz.func6 E5 F8 F4
  (fun os started H enc _ => Dq os started H enc)
#print axioms EvalCompares_holds
end Go.Proofs.YtkopaeklihhdlaaGreat
