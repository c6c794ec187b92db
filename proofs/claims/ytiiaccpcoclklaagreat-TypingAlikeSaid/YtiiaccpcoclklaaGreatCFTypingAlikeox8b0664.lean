/-
  Closed facts of TypingAlike, each by the kernel. Conditions: none.
-/
import Derived.Test.YtiiaccpcoclklaaGreatCFactsxb96b76
set_option linter.unusedSimpArgs false
set_option linter.unusedVariables false
namespace Go.Proofs.YtiiaccpcoclklaaGreat
open Go Go.Proofs
theorem aal : (Rows.typingAlikeRow.wf (OpenSpec.ofChange Rows.typingAlikeSpec)) = true := by kernel_rfl
theorem aa2 : (Tryz.f4.params.all (Tryz.prog.readableRec ·)) = true := by kernel_rfl
theorem abF : (namedTie Tryz.prog Rows.typingAlikeRow.named Rows.typingAlikeSpec.vars) = true := by kernel_rfl
theorem aai : ((Rows.typingAlikeRow.stops == [])) = true := by kernel_rfl
theorem Z0 : ((Rows.typingAlikeRow.knobs == [])) = true := by kernel_rfl
theorem XG : ((Rows.typingAlikeRow.inPlace == Tryz.prog.inPlace 4)) = true := by kernel_rfl
theorem XH : ((Rows.typingAlikeRow.unfollowed == Tryz.prog.unfollowed 4)) = true := by kernel_rfl
theorem ZC : ((Rows.typingAlikeRow.recurses == Tryz.prog.recurses 4)) = true := by kernel_rfl
theorem Xm : ((Rows.typingAlikeRow.named == Tryz.prog.varsNamed 4)) = true := by kernel_rfl
theorem WO : ((Rows.typingAlikeRow.maps == (Tryz.f4.params.toList ++ Rows.typingAlikeSpec.plain.varTypes Tryz.prog).any (Tryz.prog.mapsRec ·))) = true := by kernel_rfl
theorem ZN : ((Rows.typingAlikeRow.ifaces == (Tryz.f4.params.toList ++ Rows.typingAlikeSpec.plain.varTypes Tryz.prog).any (Tryz.prog.ifacesRec ·))) = true := by kernel_rfl
theorem ZF : ((Rows.typingAlikeRow.mapsOut == Tryz.prog.mapsAmong Tryz.f4.resultTypes.toList)) = true := by kernel_rfl
theorem Xn : ((Rows.typingAlikeRow.loops == (Tryz.f4.params.toList ++ Rows.typingAlikeSpec.plain.varTypes Tryz.prog).any (Tryz.prog.loopsFrom ·))) = true := by kernel_rfl
theorem Xx : ((Rows.typingAlikeRow.wideKeys == (Tryz.f4.params.toList ++ Rows.typingAlikeSpec.plain.varTypes Tryz.prog ++ Tryz.f4.resultTypes.toList).any (Tryz.prog.wideKeysFrom ·))) = true := by kernel_rfl
theorem Zd : (Rows.typingAlikeSpec.vars.all (Tryz.prog.varReadable ·)) = true := by kernel_rfl
theorem Xk : (Tryz.f4.resultTypes.all (fun t => Tryz.prog.readableRec t && decide (t < Tryz.prog.types.size))) = true := by kernel_rfl
theorem Xy : ((Rows.typingAlikeRow.ifacesOut == Tryz.f4.resultTypes.toList.any (Tryz.prog.ifacesRec ·))) = true := by kernel_rfl
theorem YG : ((Rows.typingAlikeRow.loopsOut == Tryz.f4.resultTypes.toList.any (Tryz.prog.loopsFrom ·))) = true := by kernel_rfl
theorem Zn : ((Rows.typingAlikeRow.plainKeys == Tryz.prog.plainKeys)) = true := by kernel_rfl
theorem ZB : (Rows.typingAlikeRow.shortTexts.isNone) = true := by kernel_rfl
theorem XL : ((Rows.typingAlikeRow.lifted == Tryz.prog.liftsFinal)) = true := by kernel_rfl
theorem YI : ((Tryz.prog.make == some Rows.typingAlikeRow.make)) = true := by kernel_rfl
theorem Xj : ((Rows.typingAlikeRow.kinds == (if Rows.typingAlikeRow.domain.isEmpty then [] else Tryz.f4.params.toList.map fun t => match Tryz.prog.underlying t with | some (.int k) => some k | _ => none))) = true := by kernel_rfl
theorem YK : ((Rows.typingAlikeRow.pinned == Rows.typingAlikeRow.pinnedBy)) = true := by kernel_rfl
theorem YA : ((Rows.typingAlikeRow.veiled == (Tryz.f4.params.toList ++ Rows.typingAlikeSpec.plain.varTypes Tryz.prog ++ Tryz.f4.resultTypes.toList).any (Tryz.prog.veiledRec ·))) = true := by kernel_rfl
theorem Zh : (Rows.typingAlikeRow.veiledFits Tryz.prog Tryz.f4.params.toList (Tryz.f4.params.toList ++ Rows.typingAlikeSpec.plain.varTypes Tryz.prog ++ Tryz.f4.resultTypes.toList)) = true := by kernel_rfl
set_option maxRecDepth 100000 in
theorem SY : joinedFacts Tryz.prog 4 Tryz.f4 Rows.typingAlikeSpec Rows.typingAlikeRow = true := by
 unfold joinedFacts
 exact aM (aM (aM (aM (aM (aM (aM (aM (aM (aM (aM (aM (aM (aM (aM (aM (aM (aM (aM (aM (aM (aM (aM (aM (aM (aM (aM (aM (aM (aM (aM aal NK) NS) aa2) abF) aai) NU) Z0) Ny) XG) XH) ZC) Xm) WO) ZN) ZF) Xn) Xx) Zd) Xk) Xy) YG) Zn) ZB) F4) FP) XL) YI) Xj) YK) YA) Zh
set_option maxRecDepth 100000 in
theorem Tt : Tryz.prog.funcNamed Rows.typingAlikeRow.func = some 4 := by kernel_rfl
set_option maxRecDepth 100000 in
theorem Wd : Tryz.f4.isInstance Tryz.prog Rows.typingAlikeRow.origin Rows.typingAlikeRow.targs := of_decide_eq_true (by kernel_rfl)
set_option maxRecDepth 100000 in
theorem U7 : Tryz.f4.isWrapper Tryz.prog Rows.typingAlikeRow.wrapper Rows.typingAlikeRow.mainSum := by unfold Func.isWrapper; first | (rw [if_pos (by decide +kernel)]; kernel_rfl) | (rw [if_neg (by decide +kernel)]; exact ⟨rfl, rfl⟩)
end Go.Proofs.YtiiaccpcoclklaaGreat
