/-
  Closed facts of TypingSorts, each by the kernel. Conditions: none.
-/
import Derived.Test.YtiiaccpcoclklaaGreatCFactsx6a54e0
set_option linter.unusedSimpArgs false
set_option linter.unusedVariables false
namespace Go.Proofs.YtiiaccpcoclklaaGreat
open Go Go.Proofs
theorem TypingSorts_k1 : (Rows.typingSortsRow.wf (OpenSpec.ofChange Rows.typingSortsSpec)) = true := by kernel_rfl
theorem TypingSorts_k4 : (Tryz.f9.params.all (Tryz.prog.readableRec ·)) = true := by kernel_rfl
theorem TypingSorts_k5 : (namedTie Tryz.prog Rows.typingSortsRow.named Rows.typingSortsSpec.vars) = true := by kernel_rfl
theorem TypingSorts_k6 : ((Rows.typingSortsRow.stops == [])) = true := by kernel_rfl
theorem TypingSorts_k8 : ((Rows.typingSortsRow.knobs == [])) = true := by kernel_rfl
theorem TypingSorts_k10 : ((Rows.typingSortsRow.inPlace == Tryz.prog.inPlace 9)) = true := by kernel_rfl
theorem TypingSorts_k11 : ((Rows.typingSortsRow.unfollowed == Tryz.prog.unfollowed 9)) = true := by kernel_rfl
theorem TypingSorts_k12 : ((Rows.typingSortsRow.recurses == Tryz.prog.recurses 9)) = true := by kernel_rfl
theorem TypingSorts_k13 : ((Rows.typingSortsRow.named == Tryz.prog.varsNamed 9)) = true := by kernel_rfl
theorem TypingSorts_k14 : ((Rows.typingSortsRow.maps == (Tryz.f9.params.toList ++ Rows.typingSortsSpec.plain.varTypes Tryz.prog).any (Tryz.prog.mapsRec ·))) = true := by kernel_rfl
theorem TypingSorts_k15 : ((Rows.typingSortsRow.ifaces == (Tryz.f9.params.toList ++ Rows.typingSortsSpec.plain.varTypes Tryz.prog).any (Tryz.prog.ifacesRec ·))) = true := by kernel_rfl
theorem TypingSorts_k16 : ((Rows.typingSortsRow.mapsOut == Tryz.prog.mapsAmong Tryz.f9.resultTypes.toList)) = true := by kernel_rfl
theorem TypingSorts_k17 : ((Rows.typingSortsRow.loops == (Tryz.f9.params.toList ++ Rows.typingSortsSpec.plain.varTypes Tryz.prog).any (Tryz.prog.loopsFrom ·))) = true := by kernel_rfl
theorem TypingSorts_k18 : ((Rows.typingSortsRow.wideKeys == (Tryz.f9.params.toList ++ Rows.typingSortsSpec.plain.varTypes Tryz.prog ++ Tryz.f9.resultTypes.toList).any (Tryz.prog.wideKeysFrom ·))) = true := by kernel_rfl
theorem TypingSorts_k19 : (Rows.typingSortsSpec.vars.all (Tryz.prog.varReadable ·)) = true := by kernel_rfl
theorem TypingSorts_k20 : (Tryz.f9.resultTypes.all (fun t => Tryz.prog.readableRec t && decide (t < Tryz.prog.types.size))) = true := by kernel_rfl
theorem TypingSorts_k21 : ((Rows.typingSortsRow.ifacesOut == Tryz.f9.resultTypes.toList.any (Tryz.prog.ifacesRec ·))) = true := by kernel_rfl
theorem TypingSorts_k22 : ((Rows.typingSortsRow.loopsOut == Tryz.f9.resultTypes.toList.any (Tryz.prog.loopsFrom ·))) = true := by kernel_rfl
theorem TypingSorts_k23 : ((Rows.typingSortsRow.plainKeys == Tryz.prog.plainKeys)) = true := by kernel_rfl
theorem TypingSorts_k24 : (Rows.typingSortsRow.shortTexts.isNone) = true := by kernel_rfl
theorem TypingSorts_k27 : ((Rows.typingSortsRow.lifted == Tryz.prog.liftsFinal)) = true := by kernel_rfl
theorem TypingSorts_k28 : ((Tryz.prog.make == some Rows.typingSortsRow.make)) = true := by kernel_rfl
theorem TypingSorts_k29 : ((Rows.typingSortsRow.kinds == (if Rows.typingSortsRow.domain.isEmpty then [] else Tryz.f9.params.toList.map fun t => match Tryz.prog.underlying t with | some (.int k) => some k | _ => none))) = true := by kernel_rfl
theorem TypingSorts_k30 : ((Rows.typingSortsRow.pinned == Rows.typingSortsRow.pinnedBy)) = true := by kernel_rfl
theorem TypingSorts_k31 : ((Rows.typingSortsRow.veiled == (Tryz.f9.params.toList ++ Rows.typingSortsSpec.plain.varTypes Tryz.prog ++ Tryz.f9.resultTypes.toList).any (Tryz.prog.veiledRec ·))) = true := by kernel_rfl
theorem TypingSorts_k32 : (Rows.typingSortsRow.veiledFits Tryz.prog Tryz.f9.params.toList (Tryz.f9.params.toList ++ Rows.typingSortsSpec.plain.varTypes Tryz.prog ++ Tryz.f9.resultTypes.toList)) = true := by kernel_rfl
set_option maxRecDepth 100000 in
theorem TypingSorts_facts : joinedFacts Tryz.prog 9 Tryz.f9 Rows.typingSortsSpec Rows.typingSortsRow = true := by
 unfold joinedFacts
 exact and2 (and2 (and2 (and2 (and2 (and2 (and2 (and2 (and2 (and2 (and2 (and2 (and2 (and2 (and2 (and2 (and2 (and2 (and2 (and2 (and2 (and2 (and2 (and2 (and2 (and2 (and2 (and2 (and2 (and2 (and2 TypingSorts_k1 pf2) pf3) TypingSorts_k4) TypingSorts_k5) TypingSorts_k6) pf7) TypingSorts_k8) pf9) TypingSorts_k10) TypingSorts_k11) TypingSorts_k12) TypingSorts_k13) TypingSorts_k14) TypingSorts_k15) TypingSorts_k16) TypingSorts_k17) TypingSorts_k18) TypingSorts_k19) TypingSorts_k20) TypingSorts_k21) TypingSorts_k22) TypingSorts_k23) TypingSorts_k24) pf25) pf26) TypingSorts_k27) TypingSorts_k28) TypingSorts_k29) TypingSorts_k30) TypingSorts_k31) TypingSorts_k32
set_option maxRecDepth 100000 in
theorem TypingSorts_named : Tryz.prog.funcNamed Rows.typingSortsRow.func = some 9 := by kernel_rfl
set_option maxRecDepth 100000 in
theorem TypingSorts_inst : Tryz.f9.isInstance Tryz.prog Rows.typingSortsRow.origin Rows.typingSortsRow.targs := of_decide_eq_true (by kernel_rfl)
set_option maxRecDepth 100000 in
theorem TypingSorts_wrap : Tryz.f9.isWrapper Tryz.prog Rows.typingSortsRow.wrapper Rows.typingSortsRow.mainSum := by unfold Func.isWrapper; first | (rw [if_pos (by decide +kernel)]; kernel_rfl) | (rw [if_neg (by decide +kernel)]; exact ⟨rfl, rfl⟩)
end Go.Proofs.YtiiaccpcoclklaaGreat
