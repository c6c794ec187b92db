/-
  Closed facts of TypingBinders, each by the kernel. Conditions: none.
-/
import Derived.Test.YtiiaccpcoclklaaGreatCFactsx6a54e0
set_option linter.unusedSimpArgs false
set_option linter.unusedVariables false
namespace Go.Proofs.YtiiaccpcoclklaaGreat
open Go Go.Proofs
theorem TypingBinders_k1 : (Rows.typingBindersRow.wf (OpenSpec.ofChange Rows.typingBindersSpec)) = true := by kernel_rfl
theorem TypingBinders_k4 : (Tryz.f13.params.all (Tryz.prog.readableRec ·)) = true := by kernel_rfl
theorem TypingBinders_k5 : (namedTie Tryz.prog Rows.typingBindersRow.named Rows.typingBindersSpec.vars) = true := by kernel_rfl
theorem TypingBinders_k6 : ((Rows.typingBindersRow.stops == [])) = true := by kernel_rfl
theorem TypingBinders_k8 : ((Rows.typingBindersRow.knobs == [])) = true := by kernel_rfl
theorem TypingBinders_k10 : ((Rows.typingBindersRow.inPlace == Tryz.prog.inPlace 13)) = true := by kernel_rfl
theorem TypingBinders_k11 : ((Rows.typingBindersRow.unfollowed == Tryz.prog.unfollowed 13)) = true := by kernel_rfl
theorem TypingBinders_k12 : ((Rows.typingBindersRow.recurses == Tryz.prog.recurses 13)) = true := by kernel_rfl
theorem TypingBinders_k13 : ((Rows.typingBindersRow.named == Tryz.prog.varsNamed 13)) = true := by kernel_rfl
theorem TypingBinders_k14 : ((Rows.typingBindersRow.maps == (Tryz.f13.params.toList ++ Rows.typingBindersSpec.plain.varTypes Tryz.prog).any (Tryz.prog.mapsRec ·))) = true := by kernel_rfl
theorem TypingBinders_k15 : ((Rows.typingBindersRow.ifaces == (Tryz.f13.params.toList ++ Rows.typingBindersSpec.plain.varTypes Tryz.prog).any (Tryz.prog.ifacesRec ·))) = true := by kernel_rfl
theorem TypingBinders_k16 : ((Rows.typingBindersRow.mapsOut == Tryz.prog.mapsAmong Tryz.f13.resultTypes.toList)) = true := by kernel_rfl
theorem TypingBinders_k17 : ((Rows.typingBindersRow.loops == (Tryz.f13.params.toList ++ Rows.typingBindersSpec.plain.varTypes Tryz.prog).any (Tryz.prog.loopsFrom ·))) = true := by kernel_rfl
theorem TypingBinders_k18 : ((Rows.typingBindersRow.wideKeys == (Tryz.f13.params.toList ++ Rows.typingBindersSpec.plain.varTypes Tryz.prog ++ Tryz.f13.resultTypes.toList).any (Tryz.prog.wideKeysFrom ·))) = true := by kernel_rfl
theorem TypingBinders_k19 : (Rows.typingBindersSpec.vars.all (Tryz.prog.varReadable ·)) = true := by kernel_rfl
theorem TypingBinders_k20 : (Tryz.f13.resultTypes.all (fun t => Tryz.prog.readableRec t && decide (t < Tryz.prog.types.size))) = true := by kernel_rfl
theorem TypingBinders_k21 : ((Rows.typingBindersRow.ifacesOut == Tryz.f13.resultTypes.toList.any (Tryz.prog.ifacesRec ·))) = true := by kernel_rfl
theorem TypingBinders_k22 : ((Rows.typingBindersRow.loopsOut == Tryz.f13.resultTypes.toList.any (Tryz.prog.loopsFrom ·))) = true := by kernel_rfl
theorem TypingBinders_k23 : ((Rows.typingBindersRow.plainKeys == Tryz.prog.plainKeys)) = true := by kernel_rfl
theorem TypingBinders_k24 : (Rows.typingBindersRow.shortTexts.isNone) = true := by kernel_rfl
theorem TypingBinders_k27 : ((Rows.typingBindersRow.lifted == Tryz.prog.liftsFinal)) = true := by kernel_rfl
theorem TypingBinders_k28 : ((Tryz.prog.make == some Rows.typingBindersRow.make)) = true := by kernel_rfl
theorem TypingBinders_k29 : ((Rows.typingBindersRow.kinds == (if Rows.typingBindersRow.domain.isEmpty then [] else Tryz.f13.params.toList.map fun t => match Tryz.prog.underlying t with | some (.int k) => some k | _ => none))) = true := by kernel_rfl
theorem TypingBinders_k30 : ((Rows.typingBindersRow.pinned == Rows.typingBindersRow.pinnedBy)) = true := by kernel_rfl
theorem TypingBinders_k31 : ((Rows.typingBindersRow.veiled == (Tryz.f13.params.toList ++ Rows.typingBindersSpec.plain.varTypes Tryz.prog ++ Tryz.f13.resultTypes.toList).any (Tryz.prog.veiledRec ·))) = true := by kernel_rfl
theorem TypingBinders_k32 : (Rows.typingBindersRow.veiledFits Tryz.prog Tryz.f13.params.toList (Tryz.f13.params.toList ++ Rows.typingBindersSpec.plain.varTypes Tryz.prog ++ Tryz.f13.resultTypes.toList)) = true := by kernel_rfl
set_option maxRecDepth 100000 in
theorem TypingBinders_facts : joinedFacts Tryz.prog 13 Tryz.f13 Rows.typingBindersSpec Rows.typingBindersRow = true := by
 unfold joinedFacts
 exact and2 (and2 (and2 (and2 (and2 (and2 (and2 (and2 (and2 (and2 (and2 (and2 (and2 (and2 (and2 (and2 (and2 (and2 (and2 (and2 (and2 (and2 (and2 (and2 (and2 (and2 (and2 (and2 (and2 (and2 (and2 TypingBinders_k1 pf2) pf3) TypingBinders_k4) TypingBinders_k5) TypingBinders_k6) pf7) TypingBinders_k8) pf9) TypingBinders_k10) TypingBinders_k11) TypingBinders_k12) TypingBinders_k13) TypingBinders_k14) TypingBinders_k15) TypingBinders_k16) TypingBinders_k17) TypingBinders_k18) TypingBinders_k19) TypingBinders_k20) TypingBinders_k21) TypingBinders_k22) TypingBinders_k23) TypingBinders_k24) pf25) pf26) TypingBinders_k27) TypingBinders_k28) TypingBinders_k29) TypingBinders_k30) TypingBinders_k31) TypingBinders_k32
set_option maxRecDepth 100000 in
theorem TypingBinders_named : Tryz.prog.funcNamed Rows.typingBindersRow.func = some 13 := by kernel_rfl
set_option maxRecDepth 100000 in
theorem TypingBinders_inst : Tryz.f13.isInstance Tryz.prog Rows.typingBindersRow.origin Rows.typingBindersRow.targs := of_decide_eq_true (by kernel_rfl)
set_option maxRecDepth 100000 in
theorem TypingBinders_wrap : Tryz.f13.isWrapper Tryz.prog Rows.typingBindersRow.wrapper Rows.typingBindersRow.mainSum := by unfold Func.isWrapper; first | (rw [if_pos (by decide +kernel)]; kernel_rfl) | (rw [if_neg (by decide +kernel)]; exact ⟨rfl, rfl⟩)
end Go.Proofs.YtiiaccpcoclklaaGreat
