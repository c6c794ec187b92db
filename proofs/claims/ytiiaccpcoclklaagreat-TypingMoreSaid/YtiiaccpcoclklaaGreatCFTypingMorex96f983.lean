/-
  Closed facts of TypingMore, each by the kernel. Conditions: none.
-/
import Derived.Test.YtiiaccpcoclklaaGreatCFactsx6a54e0
set_option linter.unusedSimpArgs false
set_option linter.unusedVariables false
namespace Go.Proofs.YtiiaccpcoclklaaGreat
open Go Go.Proofs
theorem TypingMore_k1 : (Rows.typingMoreRow.wf (OpenSpec.ofChange Rows.typingMoreSpec)) = true := by kernel_rfl
theorem TypingMore_k4 : (Tryz.f14.params.all (Tryz.prog.readableRec ·)) = true := by kernel_rfl
theorem TypingMore_k5 : (namedTie Tryz.prog Rows.typingMoreRow.named Rows.typingMoreSpec.vars) = true := by kernel_rfl
theorem TypingMore_k6 : ((Rows.typingMoreRow.stops == [])) = true := by kernel_rfl
theorem TypingMore_k8 : ((Rows.typingMoreRow.knobs == [])) = true := by kernel_rfl
theorem TypingMore_k10 : ((Rows.typingMoreRow.inPlace == Tryz.prog.inPlace 14)) = true := by kernel_rfl
theorem TypingMore_k11 : ((Rows.typingMoreRow.unfollowed == Tryz.prog.unfollowed 14)) = true := by kernel_rfl
theorem TypingMore_k12 : ((Rows.typingMoreRow.recurses == Tryz.prog.recurses 14)) = true := by kernel_rfl
theorem TypingMore_k13 : ((Rows.typingMoreRow.named == Tryz.prog.varsNamed 14)) = true := by kernel_rfl
theorem TypingMore_k14 : ((Rows.typingMoreRow.maps == (Tryz.f14.params.toList ++ Rows.typingMoreSpec.plain.varTypes Tryz.prog).any (Tryz.prog.mapsRec ·))) = true := by kernel_rfl
theorem TypingMore_k15 : ((Rows.typingMoreRow.ifaces == (Tryz.f14.params.toList ++ Rows.typingMoreSpec.plain.varTypes Tryz.prog).any (Tryz.prog.ifacesRec ·))) = true := by kernel_rfl
theorem TypingMore_k16 : ((Rows.typingMoreRow.mapsOut == Tryz.prog.mapsAmong Tryz.f14.resultTypes.toList)) = true := by kernel_rfl
theorem TypingMore_k17 : ((Rows.typingMoreRow.loops == (Tryz.f14.params.toList ++ Rows.typingMoreSpec.plain.varTypes Tryz.prog).any (Tryz.prog.loopsFrom ·))) = true := by kernel_rfl
theorem TypingMore_k18 : ((Rows.typingMoreRow.wideKeys == (Tryz.f14.params.toList ++ Rows.typingMoreSpec.plain.varTypes Tryz.prog ++ Tryz.f14.resultTypes.toList).any (Tryz.prog.wideKeysFrom ·))) = true := by kernel_rfl
theorem TypingMore_k19 : (Rows.typingMoreSpec.vars.all (Tryz.prog.varReadable ·)) = true := by kernel_rfl
theorem TypingMore_k20 : (Tryz.f14.resultTypes.all (fun t => Tryz.prog.readableRec t && decide (t < Tryz.prog.types.size))) = true := by kernel_rfl
theorem TypingMore_k21 : ((Rows.typingMoreRow.ifacesOut == Tryz.f14.resultTypes.toList.any (Tryz.prog.ifacesRec ·))) = true := by kernel_rfl
theorem TypingMore_k22 : ((Rows.typingMoreRow.loopsOut == Tryz.f14.resultTypes.toList.any (Tryz.prog.loopsFrom ·))) = true := by kernel_rfl
theorem TypingMore_k23 : ((Rows.typingMoreRow.plainKeys == Tryz.prog.plainKeys)) = true := by kernel_rfl
theorem TypingMore_k24 : (Rows.typingMoreRow.shortTexts.isNone) = true := by kernel_rfl
theorem TypingMore_k27 : ((Rows.typingMoreRow.lifted == Tryz.prog.liftsFinal)) = true := by kernel_rfl
theorem TypingMore_k28 : ((Tryz.prog.make == some Rows.typingMoreRow.make)) = true := by kernel_rfl
theorem TypingMore_k29 : ((Rows.typingMoreRow.kinds == (if Rows.typingMoreRow.domain.isEmpty then [] else Tryz.f14.params.toList.map fun t => match Tryz.prog.underlying t with | some (.int k) => some k | _ => none))) = true := by kernel_rfl
theorem TypingMore_k30 : ((Rows.typingMoreRow.pinned == Rows.typingMoreRow.pinnedBy)) = true := by kernel_rfl
theorem TypingMore_k31 : ((Rows.typingMoreRow.veiled == (Tryz.f14.params.toList ++ Rows.typingMoreSpec.plain.varTypes Tryz.prog ++ Tryz.f14.resultTypes.toList).any (Tryz.prog.veiledRec ·))) = true := by kernel_rfl
theorem TypingMore_k32 : (Rows.typingMoreRow.veiledFits Tryz.prog Tryz.f14.params.toList (Tryz.f14.params.toList ++ Rows.typingMoreSpec.plain.varTypes Tryz.prog ++ Tryz.f14.resultTypes.toList)) = true := by kernel_rfl
set_option maxRecDepth 100000 in
theorem TypingMore_facts : joinedFacts Tryz.prog 14 Tryz.f14 Rows.typingMoreSpec Rows.typingMoreRow = true := by
 unfold joinedFacts
 exact and2 (and2 (and2 (and2 (and2 (and2 (and2 (and2 (and2 (and2 (and2 (and2 (and2 (and2 (and2 (and2 (and2 (and2 (and2 (and2 (and2 (and2 (and2 (and2 (and2 (and2 (and2 (and2 (and2 (and2 (and2 TypingMore_k1 pf2) pf3) TypingMore_k4) TypingMore_k5) TypingMore_k6) pf7) TypingMore_k8) pf9) TypingMore_k10) TypingMore_k11) TypingMore_k12) TypingMore_k13) TypingMore_k14) TypingMore_k15) TypingMore_k16) TypingMore_k17) TypingMore_k18) TypingMore_k19) TypingMore_k20) TypingMore_k21) TypingMore_k22) TypingMore_k23) TypingMore_k24) pf25) pf26) TypingMore_k27) TypingMore_k28) TypingMore_k29) TypingMore_k30) TypingMore_k31) TypingMore_k32
set_option maxRecDepth 100000 in
theorem TypingMore_named : Tryz.prog.funcNamed Rows.typingMoreRow.func = some 14 := by kernel_rfl
set_option maxRecDepth 100000 in
theorem TypingMore_inst : Tryz.f14.isInstance Tryz.prog Rows.typingMoreRow.origin Rows.typingMoreRow.targs := of_decide_eq_true (by kernel_rfl)
set_option maxRecDepth 100000 in
theorem TypingMore_wrap : Tryz.f14.isWrapper Tryz.prog Rows.typingMoreRow.wrapper Rows.typingMoreRow.mainSum := by unfold Func.isWrapper; first | (rw [if_pos (by decide +kernel)]; kernel_rfl) | (rw [if_neg (by decide +kernel)]; exact ⟨rfl, rfl⟩)
end Go.Proofs.YtiiaccpcoclklaaGreat
