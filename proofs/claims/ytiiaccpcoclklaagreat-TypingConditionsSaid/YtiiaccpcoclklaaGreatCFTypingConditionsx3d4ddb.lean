/-
  Closed facts of TypingConditions, each by the kernel. Conditions: none.
-/
import Derived.Test.YtiiaccpcoclklaaGreatCFactsxfd4178
set_option linter.unusedSimpArgs false
set_option linter.unusedVariables false
namespace Go.Proofs.YtiiaccpcoclklaaGreat
open Go Go.Proofs
theorem CQ : (Rows.typingConditionsRow.wf (OpenSpec.ofChange Rows.typingConditionsSpec)) = true := by kernel_rfl
theorem CK : (Tryz.f11.params.all (Tryz.prog.readableRec ·)) = true := by kernel_rfl
theorem CO : (namedTie Tryz.prog Rows.typingConditionsRow.named Rows.typingConditionsSpec.vars) = true := by kernel_rfl
theorem Cw : ((Rows.typingConditionsRow.stops == [])) = true := by kernel_rfl
theorem Cz : ((Rows.typingConditionsRow.knobs == [])) = true := by kernel_rfl
theorem Bc : ((Rows.typingConditionsRow.inPlace == Tryz.prog.inPlace 11)) = true := by kernel_rfl
theorem Bn : ((Rows.typingConditionsRow.unfollowed == Tryz.prog.unfollowed 11)) = true := by kernel_rfl
theorem BF : ((Rows.typingConditionsRow.recurses == Tryz.prog.recurses 11)) = true := by kernel_rfl
theorem AU : ((Rows.typingConditionsRow.named == Tryz.prog.varsNamed 11)) = true := by kernel_rfl
theorem BA : ((Rows.typingConditionsRow.maps == (Tryz.f11.params.toList ++ Rows.typingConditionsSpec.plain.varTypes Tryz.prog).any (Tryz.prog.mapsRec ·))) = true := by kernel_rfl
theorem BG : ((Rows.typingConditionsRow.ifaces == (Tryz.f11.params.toList ++ Rows.typingConditionsSpec.plain.varTypes Tryz.prog).any (Tryz.prog.ifacesRec ·))) = true := by kernel_rfl
theorem BJ : ((Rows.typingConditionsRow.mapsOut == Tryz.prog.mapsAmong Tryz.f11.resultTypes.toList)) = true := by kernel_rfl
theorem Cb : ((Rows.typingConditionsRow.loops == (Tryz.f11.params.toList ++ Rows.typingConditionsSpec.plain.varTypes Tryz.prog).any (Tryz.prog.loopsFrom ·))) = true := by kernel_rfl
theorem Br : ((Rows.typingConditionsRow.wideKeys == (Tryz.f11.params.toList ++ Rows.typingConditionsSpec.plain.varTypes Tryz.prog ++ Tryz.f11.resultTypes.toList).any (Tryz.prog.wideKeysFrom ·))) = true := by kernel_rfl
theorem BO : (Rows.typingConditionsSpec.vars.all (Tryz.prog.varReadable ·)) = true := by kernel_rfl
theorem BL : (Tryz.f11.resultTypes.all (fun t => Tryz.prog.readableRec t && decide (t < Tryz.prog.types.size))) = true := by kernel_rfl
theorem A9 : ((Rows.typingConditionsRow.ifacesOut == Tryz.f11.resultTypes.toList.any (Tryz.prog.ifacesRec ·))) = true := by kernel_rfl
theorem Bz : ((Rows.typingConditionsRow.loopsOut == Tryz.f11.resultTypes.toList.any (Tryz.prog.loopsFrom ·))) = true := by kernel_rfl
theorem A8 : ((Rows.typingConditionsRow.plainKeys == Tryz.prog.plainKeys)) = true := by kernel_rfl
theorem Bw : (Rows.typingConditionsRow.shortTexts.isNone) = true := by kernel_rfl
theorem Bl : ((Rows.typingConditionsRow.lifted == Tryz.prog.liftsFinal)) = true := by kernel_rfl
theorem AY : ((Tryz.prog.make == some Rows.typingConditionsRow.make)) = true := by kernel_rfl
theorem AX : ((Rows.typingConditionsRow.kinds == (if Rows.typingConditionsRow.domain.isEmpty then [] else Tryz.f11.params.toList.map fun t => match Tryz.prog.underlying t with | some (.int k) => some k | _ => none))) = true := by kernel_rfl
theorem BK : ((Rows.typingConditionsRow.pinned == Rows.typingConditionsRow.pinnedBy)) = true := by kernel_rfl
theorem Bf : ((Rows.typingConditionsRow.veiled == (Tryz.f11.params.toList ++ Rows.typingConditionsSpec.plain.varTypes Tryz.prog ++ Tryz.f11.resultTypes.toList).any (Tryz.prog.veiledRec ·))) = true := by kernel_rfl
theorem AJ : (Rows.typingConditionsRow.veiledFits Tryz.prog Tryz.f11.params.toList (Tryz.f11.params.toList ++ Rows.typingConditionsSpec.plain.varTypes Tryz.prog ++ Tryz.f11.resultTypes.toList)) = true := by kernel_rfl
set_option maxRecDepth 100000 in
theorem zH : joinedFacts Tryz.prog 11 Tryz.f11 Rows.typingConditionsSpec Rows.typingConditionsRow = true := by
 unfold joinedFacts
 exact jL (jL (jL (jL (jL (jL (jL (jL (jL (jL (jL (jL (jL (jL (jL (jL (jL (jL (jL (jL (jL (jL (jL (jL (jL (jL (jL (jL (jL (jL (jL CQ YB) Yv) CK) CO) Cw) Yy) Cz) Yr) Bc) Bn) BF) AU) BA) BG) BJ) Cb) Br) BO) BL) A9) Bz) A8) Bw) XO) XU) Bl) AY) AX) BK) Bf) AJ
set_option maxRecDepth 100000 in
theorem zl : Tryz.prog.funcNamed Rows.typingConditionsRow.func = some 11 := by kernel_rfl
set_option maxRecDepth 100000 in
theorem Am : Tryz.f11.isInstance Tryz.prog Rows.typingConditionsRow.origin Rows.typingConditionsRow.targs := of_decide_eq_true (by kernel_rfl)
set_option maxRecDepth 100000 in
theorem Aj : Tryz.f11.isWrapper Tryz.prog Rows.typingConditionsRow.wrapper Rows.typingConditionsRow.mainSum := by unfold Func.isWrapper; first | (rw [if_pos (by decide +kernel)]; kernel_rfl) | (rw [if_neg (by decide +kernel)]; exact ⟨rfl, rfl⟩)
end Go.Proofs.YtiiaccpcoclklaaGreat
