/-
  Closed facts of TypingDefines, each by the kernel. Conditions: none.
-/
import Derived.Test.YtiiaccpcoclklaaGreatCFactsxb96b76
set_option linter.unusedSimpArgs false
set_option linter.unusedVariables false
namespace Go.Proofs.YtiiaccpcoclklaaGreat
open Go Go.Proofs
theorem UM : (Rows.typingDefinesRow.wf (OpenSpec.ofChange Rows.typingDefinesSpec)) = true := by kernel_rfl
theorem UQ : (Tryz.f8.params.all (Tryz.prog.readableRec ·)) = true := by kernel_rfl
theorem VB : (namedTie Tryz.prog Rows.typingDefinesRow.named Rows.typingDefinesSpec.vars) = true := by kernel_rfl
theorem Vz : ((Rows.typingDefinesRow.stops == [])) = true := by kernel_rfl
theorem VU : ((Rows.typingDefinesRow.knobs == [])) = true := by kernel_rfl
theorem Td : ((Rows.typingDefinesRow.inPlace == Tryz.prog.inPlace 8)) = true := by kernel_rfl
theorem Ta : ((Rows.typingDefinesRow.unfollowed == Tryz.prog.unfollowed 8)) = true := by kernel_rfl
theorem R7 : ((Rows.typingDefinesRow.recurses == Tryz.prog.recurses 8)) = true := by kernel_rfl
theorem TA : ((Rows.typingDefinesRow.named == Tryz.prog.varsNamed 8)) = true := by kernel_rfl
theorem Sv : ((Rows.typingDefinesRow.maps == (Tryz.f8.params.toList ++ Rows.typingDefinesSpec.plain.varTypes Tryz.prog).any (Tryz.prog.mapsRec ·))) = true := by kernel_rfl
theorem RQ : ((Rows.typingDefinesRow.ifaces == (Tryz.f8.params.toList ++ Rows.typingDefinesSpec.plain.varTypes Tryz.prog).any (Tryz.prog.ifacesRec ·))) = true := by kernel_rfl
theorem Sz : ((Rows.typingDefinesRow.mapsOut == Tryz.prog.mapsAmong Tryz.f8.resultTypes.toList)) = true := by kernel_rfl
theorem SA : ((Rows.typingDefinesRow.loops == (Tryz.f8.params.toList ++ Rows.typingDefinesSpec.plain.varTypes Tryz.prog).any (Tryz.prog.loopsFrom ·))) = true := by kernel_rfl
theorem R4 : ((Rows.typingDefinesRow.wideKeys == (Tryz.f8.params.toList ++ Rows.typingDefinesSpec.plain.varTypes Tryz.prog ++ Tryz.f8.resultTypes.toList).any (Tryz.prog.wideKeysFrom ·))) = true := by kernel_rfl
theorem TU : (Rows.typingDefinesSpec.vars.all (Tryz.prog.varReadable ·)) = true := by kernel_rfl
theorem TW : (Tryz.f8.resultTypes.all (fun t => Tryz.prog.readableRec t && decide (t < Tryz.prog.types.size))) = true := by kernel_rfl
theorem TV : ((Rows.typingDefinesRow.ifacesOut == Tryz.f8.resultTypes.toList.any (Tryz.prog.ifacesRec ·))) = true := by kernel_rfl
theorem Tf : ((Rows.typingDefinesRow.loopsOut == Tryz.f8.resultTypes.toList.any (Tryz.prog.loopsFrom ·))) = true := by kernel_rfl
theorem SN : ((Rows.typingDefinesRow.plainKeys == Tryz.prog.plainKeys)) = true := by kernel_rfl
theorem Sn : (Rows.typingDefinesRow.shortTexts.isNone) = true := by kernel_rfl
theorem RO : ((Rows.typingDefinesRow.lifted == Tryz.prog.liftsFinal)) = true := by kernel_rfl
theorem TF : ((Tryz.prog.make == some Rows.typingDefinesRow.make)) = true := by kernel_rfl
theorem Ud : ((Rows.typingDefinesRow.kinds == (if Rows.typingDefinesRow.domain.isEmpty then [] else Tryz.f8.params.toList.map fun t => match Tryz.prog.underlying t with | some (.int k) => some k | _ => none))) = true := by kernel_rfl
theorem SH : ((Rows.typingDefinesRow.pinned == Rows.typingDefinesRow.pinnedBy)) = true := by kernel_rfl
theorem TY : ((Rows.typingDefinesRow.veiled == (Tryz.f8.params.toList ++ Rows.typingDefinesSpec.plain.varTypes Tryz.prog ++ Tryz.f8.resultTypes.toList).any (Tryz.prog.veiledRec ·))) = true := by kernel_rfl
theorem Tn : (Rows.typingDefinesRow.veiledFits Tryz.prog Tryz.f8.params.toList (Tryz.f8.params.toList ++ Rows.typingDefinesSpec.plain.varTypes Tryz.prog ++ Tryz.f8.resultTypes.toList)) = true := by kernel_rfl
set_option maxRecDepth 100000 in
theorem OD : joinedFacts Tryz.prog 8 Tryz.f8 Rows.typingDefinesSpec Rows.typingDefinesRow = true := by
 unfold joinedFacts
 exact aM (aM (aM (aM (aM (aM (aM (aM (aM (aM (aM (aM (aM (aM (aM (aM (aM (aM (aM (aM (aM (aM (aM (aM (aM (aM (aM (aM (aM (aM (aM UM NK) NS) UQ) VB) Vz) NU) VU) Ny) Td) Ta) R7) TA) Sv) RQ) Sz) SA) R4) TU) TW) TV) Tf) SN) Sn) F4) FP) RO) TF) Ud) SH) TY) Tn
set_option maxRecDepth 100000 in
theorem Ow : Tryz.prog.funcNamed Rows.typingDefinesRow.func = some 8 := by kernel_rfl
set_option maxRecDepth 100000 in
theorem QY : Tryz.f8.isInstance Tryz.prog Rows.typingDefinesRow.origin Rows.typingDefinesRow.targs := of_decide_eq_true (by kernel_rfl)
set_option maxRecDepth 100000 in
theorem QA : Tryz.f8.isWrapper Tryz.prog Rows.typingDefinesRow.wrapper Rows.typingDefinesRow.mainSum := by unfold Func.isWrapper; first | (rw [if_pos (by decide +kernel)]; kernel_rfl) | (rw [if_neg (by decide +kernel)]; exact ⟨rfl, rfl⟩)
end Go.Proofs.YtiiaccpcoclklaaGreat
