/-
  Closed facts of TypingSubst, each by the kernel. Conditions: none.
-/
import Derived.Test.YtiiaccpcoclklaaGreatCFactsx289920
set_option linter.unusedSimpArgs false
set_option linter.unusedVariables false
namespace Go.Proofs.YtiiaccpcoclklaaGreat
open Go Go.Proofs
theorem WU : (Rows.typingSubstRow.wf (OpenSpec.ofChange Rows.typingSubstSpec)) = true := by kernel_rfl
theorem WW : (Tryz.f7.params.all (Tryz.prog.readableRec ·)) = true := by kernel_rfl
theorem YW : (namedTie Tryz.prog Rows.typingSubstRow.named Rows.typingSubstSpec.vars) = true := by kernel_rfl
theorem Xy : ((Rows.typingSubstRow.stops == [])) = true := by kernel_rfl
theorem YA : ((Rows.typingSubstRow.knobs == [])) = true := by kernel_rfl
theorem VR : ((Rows.typingSubstRow.inPlace == Tryz.prog.inPlace 7)) = true := by kernel_rfl
theorem V3 : ((Rows.typingSubstRow.unfollowed == Tryz.prog.unfollowed 7)) = true := by kernel_rfl
theorem UE : ((Rows.typingSubstRow.recurses == Tryz.prog.recurses 7)) = true := by kernel_rfl
theorem WA : ((Rows.typingSubstRow.named == Tryz.prog.varsNamed 7)) = true := by kernel_rfl
theorem UD : ((Rows.typingSubstRow.maps == (Tryz.f7.params.toList ++ Rows.typingSubstSpec.plain.varTypes Tryz.prog).any (Tryz.prog.mapsRec ·))) = true := by kernel_rfl
theorem WG : ((Rows.typingSubstRow.ifaces == (Tryz.f7.params.toList ++ Rows.typingSubstSpec.plain.varTypes Tryz.prog).any (Tryz.prog.ifacesRec ·))) = true := by kernel_rfl
theorem VJ : ((Rows.typingSubstRow.mapsOut == Tryz.prog.mapsAmong Tryz.f7.resultTypes.toList)) = true := by kernel_rfl
theorem UC : ((Rows.typingSubstRow.loops == (Tryz.f7.params.toList ++ Rows.typingSubstSpec.plain.varTypes Tryz.prog).any (Tryz.prog.loopsFrom ·))) = true := by kernel_rfl
theorem WK : ((Rows.typingSubstRow.wideKeys == (Tryz.f7.params.toList ++ Rows.typingSubstSpec.plain.varTypes Tryz.prog ++ Tryz.f7.resultTypes.toList).any (Tryz.prog.wideKeysFrom ·))) = true := by kernel_rfl
theorem VX : (Rows.typingSubstSpec.vars.all (Tryz.prog.varReadable ·)) = true := by kernel_rfl
theorem UH : (Tryz.f7.resultTypes.all (fun t => Tryz.prog.readableRec t && decide (t < Tryz.prog.types.size))) = true := by kernel_rfl
theorem Wq : ((Rows.typingSubstRow.ifacesOut == Tryz.f7.resultTypes.toList.any (Tryz.prog.ifacesRec ·))) = true := by kernel_rfl
theorem Wh : ((Rows.typingSubstRow.loopsOut == Tryz.f7.resultTypes.toList.any (Tryz.prog.loopsFrom ·))) = true := by kernel_rfl
theorem UQ : ((Rows.typingSubstRow.plainKeys == Tryz.prog.plainKeys)) = true := by kernel_rfl
theorem Vt : (Rows.typingSubstRow.shortTexts.isNone) = true := by kernel_rfl
theorem VK : ((Rows.typingSubstRow.lifted == Tryz.prog.liftsFinal)) = true := by kernel_rfl
theorem Wu : ((Tryz.prog.make == some Rows.typingSubstRow.make)) = true := by kernel_rfl
theorem VH : ((Rows.typingSubstRow.kinds == (if Rows.typingSubstRow.domain.isEmpty then [] else Tryz.f7.params.toList.map fun t => match Tryz.prog.underlying t with | some (.int k) => some k | _ => none))) = true := by kernel_rfl
theorem Uu : ((Rows.typingSubstRow.pinned == Rows.typingSubstRow.pinnedBy)) = true := by kernel_rfl
theorem TY : ((Rows.typingSubstRow.veiled == (Tryz.f7.params.toList ++ Rows.typingSubstSpec.plain.varTypes Tryz.prog ++ Tryz.f7.resultTypes.toList).any (Tryz.prog.veiledRec ·))) = true := by kernel_rfl
theorem Vo : (Rows.typingSubstRow.veiledFits Tryz.prog Tryz.f7.params.toList (Tryz.f7.params.toList ++ Rows.typingSubstSpec.plain.varTypes Tryz.prog ++ Tryz.f7.resultTypes.toList)) = true := by kernel_rfl
set_option maxRecDepth 100000 in
theorem QS : joinedFacts Tryz.prog 7 Tryz.f7 Rows.typingSubstSpec Rows.typingSubstRow = true := by
 unfold joinedFacts
 exact aJ (aJ (aJ (aJ (aJ (aJ (aJ (aJ (aJ (aJ (aJ (aJ (aJ (aJ (aJ (aJ (aJ (aJ (aJ (aJ (aJ (aJ (aJ (aJ (aJ (aJ (aJ (aJ (aJ (aJ (aJ WU MG) NI) WW) YW) Xy) Mq) YA) Oz) VR) V3) UE) WA) UD) WG) VJ) UC) WK) VX) UH) Wq) Wh) UQ) Vt) E8) Fw) VK) Wu) VH) Uu) TY) Vo
set_option maxRecDepth 100000 in
theorem QM : Tryz.prog.funcNamed Rows.typingSubstRow.func = some 7 := by kernel_rfl
set_option maxRecDepth 100000 in
theorem R7 : Tryz.f7.isInstance Tryz.prog Rows.typingSubstRow.origin Rows.typingSubstRow.targs := of_decide_eq_true (by kernel_rfl)
set_option maxRecDepth 100000 in
theorem SQ : Tryz.f7.isWrapper Tryz.prog Rows.typingSubstRow.wrapper Rows.typingSubstRow.mainSum := by unfold Func.isWrapper; first | (rw [if_pos (by decide +kernel)]; kernel_rfl) | (rw [if_neg (by decide +kernel)]; exact ⟨rfl, rfl⟩)
end Go.Proofs.YtiiaccpcoclklaaGreat
