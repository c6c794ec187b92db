/-
  Closed facts of TypingTypesOfTypes, each by the kernel. Conditions: none.
-/
import Derived.Test.YtiiaccpcoclklaaGreatCFactsx6a54e0
set_option linter.unusedSimpArgs false
set_option linter.unusedVariables false
namespace Go.Proofs.YtiiaccpcoclklaaGreat
open Go Go.Proofs
theorem TypingTypesOfTypes_k1 : (Rows.typingTypesOfTypesRow.wf (OpenSpec.ofChange Rows.typingTypesOfTypesSpec)) = true := by kernel_rfl
theorem TypingTypesOfTypes_k4 : (Tryz.f10.params.all (Tryz.prog.readableRec ·)) = true := by kernel_rfl
theorem TypingTypesOfTypes_k5 : (namedTie Tryz.prog Rows.typingTypesOfTypesRow.named Rows.typingTypesOfTypesSpec.vars) = true := by kernel_rfl
theorem TypingTypesOfTypes_k6 : ((Rows.typingTypesOfTypesRow.stops == [])) = true := by kernel_rfl
theorem TypingTypesOfTypes_k8 : ((Rows.typingTypesOfTypesRow.knobs == [])) = true := by kernel_rfl
theorem TypingTypesOfTypes_k10 : ((Rows.typingTypesOfTypesRow.inPlace == Tryz.prog.inPlace 10)) = true := by kernel_rfl
theorem TypingTypesOfTypes_k11 : ((Rows.typingTypesOfTypesRow.unfollowed == Tryz.prog.unfollowed 10)) = true := by kernel_rfl
theorem TypingTypesOfTypes_k12 : ((Rows.typingTypesOfTypesRow.recurses == Tryz.prog.recurses 10)) = true := by kernel_rfl
theorem TypingTypesOfTypes_k13 : ((Rows.typingTypesOfTypesRow.named == Tryz.prog.varsNamed 10)) = true := by kernel_rfl
theorem TypingTypesOfTypes_k14 : ((Rows.typingTypesOfTypesRow.maps == (Tryz.f10.params.toList ++ Rows.typingTypesOfTypesSpec.plain.varTypes Tryz.prog).any (Tryz.prog.mapsRec ·))) = true := by kernel_rfl
theorem TypingTypesOfTypes_k15 : ((Rows.typingTypesOfTypesRow.ifaces == (Tryz.f10.params.toList ++ Rows.typingTypesOfTypesSpec.plain.varTypes Tryz.prog).any (Tryz.prog.ifacesRec ·))) = true := by kernel_rfl
theorem TypingTypesOfTypes_k16 : ((Rows.typingTypesOfTypesRow.mapsOut == Tryz.prog.mapsAmong Tryz.f10.resultTypes.toList)) = true := by kernel_rfl
theorem TypingTypesOfTypes_k17 : ((Rows.typingTypesOfTypesRow.loops == (Tryz.f10.params.toList ++ Rows.typingTypesOfTypesSpec.plain.varTypes Tryz.prog).any (Tryz.prog.loopsFrom ·))) = true := by kernel_rfl
theorem TypingTypesOfTypes_k18 : ((Rows.typingTypesOfTypesRow.wideKeys == (Tryz.f10.params.toList ++ Rows.typingTypesOfTypesSpec.plain.varTypes Tryz.prog ++ Tryz.f10.resultTypes.toList).any (Tryz.prog.wideKeysFrom ·))) = true := by kernel_rfl
theorem TypingTypesOfTypes_k19 : (Rows.typingTypesOfTypesSpec.vars.all (Tryz.prog.varReadable ·)) = true := by kernel_rfl
theorem TypingTypesOfTypes_k20 : (Tryz.f10.resultTypes.all (fun t => Tryz.prog.readableRec t && decide (t < Tryz.prog.types.size))) = true := by kernel_rfl
theorem TypingTypesOfTypes_k21 : ((Rows.typingTypesOfTypesRow.ifacesOut == Tryz.f10.resultTypes.toList.any (Tryz.prog.ifacesRec ·))) = true := by kernel_rfl
theorem TypingTypesOfTypes_k22 : ((Rows.typingTypesOfTypesRow.loopsOut == Tryz.f10.resultTypes.toList.any (Tryz.prog.loopsFrom ·))) = true := by kernel_rfl
theorem TypingTypesOfTypes_k23 : ((Rows.typingTypesOfTypesRow.plainKeys == Tryz.prog.plainKeys)) = true := by kernel_rfl
theorem TypingTypesOfTypes_k24 : (Rows.typingTypesOfTypesRow.shortTexts.isNone) = true := by kernel_rfl
theorem TypingTypesOfTypes_k27 : ((Rows.typingTypesOfTypesRow.lifted == Tryz.prog.liftsFinal)) = true := by kernel_rfl
theorem TypingTypesOfTypes_k28 : ((Tryz.prog.make == some Rows.typingTypesOfTypesRow.make)) = true := by kernel_rfl
theorem TypingTypesOfTypes_k29 : ((Rows.typingTypesOfTypesRow.kinds == (if Rows.typingTypesOfTypesRow.domain.isEmpty then [] else Tryz.f10.params.toList.map fun t => match Tryz.prog.underlying t with | some (.int k) => some k | _ => none))) = true := by kernel_rfl
theorem TypingTypesOfTypes_k30 : ((Rows.typingTypesOfTypesRow.pinned == Rows.typingTypesOfTypesRow.pinnedBy)) = true := by kernel_rfl
theorem TypingTypesOfTypes_k31 : ((Rows.typingTypesOfTypesRow.veiled == (Tryz.f10.params.toList ++ Rows.typingTypesOfTypesSpec.plain.varTypes Tryz.prog ++ Tryz.f10.resultTypes.toList).any (Tryz.prog.veiledRec ·))) = true := by kernel_rfl
theorem TypingTypesOfTypes_k32 : (Rows.typingTypesOfTypesRow.veiledFits Tryz.prog Tryz.f10.params.toList (Tryz.f10.params.toList ++ Rows.typingTypesOfTypesSpec.plain.varTypes Tryz.prog ++ Tryz.f10.resultTypes.toList)) = true := by kernel_rfl
set_option maxRecDepth 100000 in
theorem TypingTypesOfTypes_facts : joinedFacts Tryz.prog 10 Tryz.f10 Rows.typingTypesOfTypesSpec Rows.typingTypesOfTypesRow = true := by
 unfold joinedFacts
 exact and2 (and2 (and2 (and2 (and2 (and2 (and2 (and2 (and2 (and2 (and2 (and2 (and2 (and2 (and2 (and2 (and2 (and2 (and2 (and2 (and2 (and2 (and2 (and2 (and2 (and2 (and2 (and2 (and2 (and2 (and2 TypingTypesOfTypes_k1 pf2) pf3) TypingTypesOfTypes_k4) TypingTypesOfTypes_k5) TypingTypesOfTypes_k6) pf7) TypingTypesOfTypes_k8) pf9) TypingTypesOfTypes_k10) TypingTypesOfTypes_k11) TypingTypesOfTypes_k12) TypingTypesOfTypes_k13) TypingTypesOfTypes_k14) TypingTypesOfTypes_k15) TypingTypesOfTypes_k16) TypingTypesOfTypes_k17) TypingTypesOfTypes_k18) TypingTypesOfTypes_k19) TypingTypesOfTypes_k20) TypingTypesOfTypes_k21) TypingTypesOfTypes_k22) TypingTypesOfTypes_k23) TypingTypesOfTypes_k24) pf25) pf26) TypingTypesOfTypes_k27) TypingTypesOfTypes_k28) TypingTypesOfTypes_k29) TypingTypesOfTypes_k30) TypingTypesOfTypes_k31) TypingTypesOfTypes_k32
set_option maxRecDepth 100000 in
theorem TypingTypesOfTypes_named : Tryz.prog.funcNamed Rows.typingTypesOfTypesRow.func = some 10 := by kernel_rfl
set_option maxRecDepth 100000 in
theorem TypingTypesOfTypes_inst : Tryz.f10.isInstance Tryz.prog Rows.typingTypesOfTypesRow.origin Rows.typingTypesOfTypesRow.targs := of_decide_eq_true (by kernel_rfl)
set_option maxRecDepth 100000 in
theorem TypingTypesOfTypes_wrap : Tryz.f10.isWrapper Tryz.prog Rows.typingTypesOfTypesRow.wrapper Rows.typingTypesOfTypesRow.mainSum := by unfold Func.isWrapper; first | (rw [if_pos (by decide +kernel)]; kernel_rfl) | (rw [if_neg (by decide +kernel)]; exact ⟨rfl, rfl⟩)
end Go.Proofs.YtiiaccpcoclklaaGreat
