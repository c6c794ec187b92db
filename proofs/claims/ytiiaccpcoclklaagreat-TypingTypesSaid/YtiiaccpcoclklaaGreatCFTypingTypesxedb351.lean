/-
  Closed facts of TypingTypes, each by the kernel. Conditions: none.
-/
import Derived.Test.YtiiaccpcoclklaaGreatCFactsx6a54e0
set_option linter.unusedSimpArgs false
set_option linter.unusedVariables false
namespace Go.Proofs.YtiiaccpcoclklaaGreat
open Go Go.Proofs
theorem TypingTypes_k1 : (Rows.typingTypesRow.wf (OpenSpec.ofChange Rows.typingTypesSpec)) = true := by kernel_rfl
theorem TypingTypes_k4 : (Tryz.f3.params.all (Tryz.prog.readableRec ·)) = true := by kernel_rfl
theorem TypingTypes_k5 : (namedTie Tryz.prog Rows.typingTypesRow.named Rows.typingTypesSpec.vars) = true := by kernel_rfl
theorem TypingTypes_k6 : ((Rows.typingTypesRow.stops == [])) = true := by kernel_rfl
theorem TypingTypes_k8 : ((Rows.typingTypesRow.knobs == [])) = true := by kernel_rfl
theorem TypingTypes_k10 : ((Rows.typingTypesRow.inPlace == Tryz.prog.inPlace 3)) = true := by kernel_rfl
theorem TypingTypes_k11 : ((Rows.typingTypesRow.unfollowed == Tryz.prog.unfollowed 3)) = true := by kernel_rfl
theorem TypingTypes_k12 : ((Rows.typingTypesRow.recurses == Tryz.prog.recurses 3)) = true := by kernel_rfl
theorem TypingTypes_k13 : ((Rows.typingTypesRow.named == Tryz.prog.varsNamed 3)) = true := by kernel_rfl
theorem TypingTypes_k14 : ((Rows.typingTypesRow.maps == (Tryz.f3.params.toList ++ Rows.typingTypesSpec.plain.varTypes Tryz.prog).any (Tryz.prog.mapsRec ·))) = true := by kernel_rfl
theorem TypingTypes_k15 : ((Rows.typingTypesRow.ifaces == (Tryz.f3.params.toList ++ Rows.typingTypesSpec.plain.varTypes Tryz.prog).any (Tryz.prog.ifacesRec ·))) = true := by kernel_rfl
theorem TypingTypes_k16 : ((Rows.typingTypesRow.mapsOut == Tryz.prog.mapsAmong Tryz.f3.resultTypes.toList)) = true := by kernel_rfl
theorem TypingTypes_k17 : ((Rows.typingTypesRow.loops == (Tryz.f3.params.toList ++ Rows.typingTypesSpec.plain.varTypes Tryz.prog).any (Tryz.prog.loopsFrom ·))) = true := by kernel_rfl
theorem TypingTypes_k18 : ((Rows.typingTypesRow.wideKeys == (Tryz.f3.params.toList ++ Rows.typingTypesSpec.plain.varTypes Tryz.prog ++ Tryz.f3.resultTypes.toList).any (Tryz.prog.wideKeysFrom ·))) = true := by kernel_rfl
theorem TypingTypes_k19 : (Rows.typingTypesSpec.vars.all (Tryz.prog.varReadable ·)) = true := by kernel_rfl
theorem TypingTypes_k20 : (Tryz.f3.resultTypes.all (fun t => Tryz.prog.readableRec t && decide (t < Tryz.prog.types.size))) = true := by kernel_rfl
theorem TypingTypes_k21 : ((Rows.typingTypesRow.ifacesOut == Tryz.f3.resultTypes.toList.any (Tryz.prog.ifacesRec ·))) = true := by kernel_rfl
theorem TypingTypes_k22 : ((Rows.typingTypesRow.loopsOut == Tryz.f3.resultTypes.toList.any (Tryz.prog.loopsFrom ·))) = true := by kernel_rfl
theorem TypingTypes_k23 : ((Rows.typingTypesRow.plainKeys == Tryz.prog.plainKeys)) = true := by kernel_rfl
theorem TypingTypes_k24 : (Rows.typingTypesRow.shortTexts.isNone) = true := by kernel_rfl
theorem TypingTypes_k27 : ((Rows.typingTypesRow.lifted == Tryz.prog.liftsFinal)) = true := by kernel_rfl
theorem TypingTypes_k28 : ((Tryz.prog.make == some Rows.typingTypesRow.make)) = true := by kernel_rfl
theorem TypingTypes_k29 : ((Rows.typingTypesRow.kinds == (if Rows.typingTypesRow.domain.isEmpty then [] else Tryz.f3.params.toList.map fun t => match Tryz.prog.underlying t with | some (.int k) => some k | _ => none))) = true := by kernel_rfl
theorem TypingTypes_k30 : ((Rows.typingTypesRow.pinned == Rows.typingTypesRow.pinnedBy)) = true := by kernel_rfl
theorem TypingTypes_k31 : ((Rows.typingTypesRow.veiled == (Tryz.f3.params.toList ++ Rows.typingTypesSpec.plain.varTypes Tryz.prog ++ Tryz.f3.resultTypes.toList).any (Tryz.prog.veiledRec ·))) = true := by kernel_rfl
theorem TypingTypes_k32 : (Rows.typingTypesRow.veiledFits Tryz.prog Tryz.f3.params.toList (Tryz.f3.params.toList ++ Rows.typingTypesSpec.plain.varTypes Tryz.prog ++ Tryz.f3.resultTypes.toList)) = true := by kernel_rfl
set_option maxRecDepth 100000 in
theorem TypingTypes_facts : joinedFacts Tryz.prog 3 Tryz.f3 Rows.typingTypesSpec Rows.typingTypesRow = true := by
 unfold joinedFacts
 exact and2 (and2 (and2 (and2 (and2 (and2 (and2 (and2 (and2 (and2 (and2 (and2 (and2 (and2 (and2 (and2 (and2 (and2 (and2 (and2 (and2 (and2 (and2 (and2 (and2 (and2 (and2 (and2 (and2 (and2 (and2 TypingTypes_k1 pf2) pf3) TypingTypes_k4) TypingTypes_k5) TypingTypes_k6) pf7) TypingTypes_k8) pf9) TypingTypes_k10) TypingTypes_k11) TypingTypes_k12) TypingTypes_k13) TypingTypes_k14) TypingTypes_k15) TypingTypes_k16) TypingTypes_k17) TypingTypes_k18) TypingTypes_k19) TypingTypes_k20) TypingTypes_k21) TypingTypes_k22) TypingTypes_k23) TypingTypes_k24) pf25) pf26) TypingTypes_k27) TypingTypes_k28) TypingTypes_k29) TypingTypes_k30) TypingTypes_k31) TypingTypes_k32
set_option maxRecDepth 100000 in
theorem TypingTypes_named : Tryz.prog.funcNamed Rows.typingTypesRow.func = some 3 := by kernel_rfl
set_option maxRecDepth 100000 in
theorem TypingTypes_inst : Tryz.f3.isInstance Tryz.prog Rows.typingTypesRow.origin Rows.typingTypesRow.targs := of_decide_eq_true (by kernel_rfl)
set_option maxRecDepth 100000 in
theorem TypingTypes_wrap : Tryz.f3.isWrapper Tryz.prog Rows.typingTypesRow.wrapper Rows.typingTypesRow.mainSum := by unfold Func.isWrapper; first | (rw [if_pos (by decide +kernel)]; kernel_rfl) | (rw [if_neg (by decide +kernel)]; exact ⟨rfl, rfl⟩)
end Go.Proofs.YtiiaccpcoclklaaGreat
