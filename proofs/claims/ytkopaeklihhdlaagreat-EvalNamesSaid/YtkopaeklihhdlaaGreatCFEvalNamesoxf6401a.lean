/-
  Closed facts of EvalNames, each by the kernel. Conditions: none.
-/
import Derived.Test.YtkopaeklihhdlaaGreatCFactsox68de2f
set_option linter.unusedSimpArgs false
set_option linter.unusedVariables false
namespace Go.Proofs.YtkopaeklihhdlaaGreat
open Go Go.Proofs
theorem SE : (Rows.evalNamesRow.wf (OpenSpec.ofChange Rows.evalNamesSpec)) = true := by kernel_rfl
theorem UE : (Tryz.f4.params.all (Tryz.prog.readableRec ·)) = true := by kernel_rfl
theorem TV : (namedTie Tryz.prog Rows.evalNamesRow.named Rows.evalNamesSpec.vars) = true := by kernel_rfl
theorem UA : ((Rows.evalNamesRow.stops == [])) = true := by kernel_rfl
theorem Sq : ((Rows.evalNamesRow.knobs == [])) = true := by kernel_rfl
theorem Qc : ((Rows.evalNamesRow.inPlace == Tryz.prog.inPlace 4)) = true := by kernel_rfl
theorem Qg : ((Rows.evalNamesRow.unfollowed == Tryz.prog.unfollowed 4)) = true := by kernel_rfl
theorem QG : ((Rows.evalNamesRow.recurses == Tryz.prog.recurses 4)) = true := by kernel_rfl
theorem RP : ((Rows.evalNamesRow.named == Tryz.prog.varsNamed 4)) = true := by kernel_rfl
theorem Ri : ((Rows.evalNamesRow.maps == (Tryz.f4.params.toList ++ Rows.evalNamesSpec.plain.varTypes Tryz.prog).any (Tryz.prog.mapsRec ·))) = true := by kernel_rfl
theorem RX : ((Rows.evalNamesRow.ifaces == (Tryz.f4.params.toList ++ Rows.evalNamesSpec.plain.varTypes Tryz.prog).any (Tryz.prog.ifacesRec ·))) = true := by kernel_rfl
theorem QH : ((Rows.evalNamesRow.mapsOut == Tryz.prog.mapsAmong Tryz.f4.resultTypes.toList)) = true := by kernel_rfl
theorem Ry : ((Rows.evalNamesRow.loops == (Tryz.f4.params.toList ++ Rows.evalNamesSpec.plain.varTypes Tryz.prog).any (Tryz.prog.loopsFrom ·))) = true := by kernel_rfl
theorem Qr : ((Rows.evalNamesRow.wideKeys == (Tryz.f4.params.toList ++ Rows.evalNamesSpec.plain.varTypes Tryz.prog ++ Tryz.f4.resultTypes.toList).any (Tryz.prog.wideKeysFrom ·))) = true := by kernel_rfl
theorem Qz : (Rows.evalNamesSpec.vars.all (Tryz.prog.varReadable ·)) = true := by kernel_rfl
theorem Rh : (Tryz.f4.resultTypes.all (fun t => Tryz.prog.readableRec t && decide (t < Tryz.prog.types.size))) = true := by kernel_rfl
theorem QE : ((Rows.evalNamesRow.ifacesOut == Tryz.f4.resultTypes.toList.any (Tryz.prog.ifacesRec ·))) = true := by kernel_rfl
theorem RU : ((Rows.evalNamesRow.loopsOut == Tryz.f4.resultTypes.toList.any (Tryz.prog.loopsFrom ·))) = true := by kernel_rfl
theorem RD : ((Rows.evalNamesRow.plainKeys == Tryz.prog.plainKeys)) = true := by kernel_rfl
theorem Qu : (Rows.evalNamesRow.shortTexts.isNone) = true := by kernel_rfl
theorem RJ : ((Rows.evalNamesRow.lifted == Tryz.prog.liftsFinal)) = true := by kernel_rfl
theorem QY : ((Tryz.prog.make == some Rows.evalNamesRow.make)) = true := by kernel_rfl
theorem Q6 : ((Rows.evalNamesRow.kinds == (if Rows.evalNamesRow.domain.isEmpty then [] else Tryz.f4.params.toList.map fun t => match Tryz.prog.underlying t with | some (.int k) => some k | _ => none))) = true := by kernel_rfl
theorem Q8 : ((Rows.evalNamesRow.pinned == Rows.evalNamesRow.pinnedBy)) = true := by kernel_rfl
theorem RO : ((Rows.evalNamesRow.veiled == (Tryz.f4.params.toList ++ Rows.evalNamesSpec.plain.varTypes Tryz.prog ++ Tryz.f4.resultTypes.toList).any (Tryz.prog.veiledRec ·))) = true := by kernel_rfl
theorem Qb : (Rows.evalNamesRow.veiledFits Tryz.prog Tryz.f4.params.toList (Tryz.f4.params.toList ++ Rows.evalNamesSpec.plain.varTypes Tryz.prog ++ Tryz.f4.resultTypes.toList)) = true := by kernel_rfl
set_option maxRecDepth 100000 in
theorem Ms : joinedFacts Tryz.prog 4 Tryz.f4 Rows.evalNamesSpec Rows.evalNamesRow = true := by
 unfold joinedFacts
 exact aX (aX (aX (aX (aX (aX (aX (aX (aX (aX (aX (aX (aX (aX (aX (aX (aX (aX (aX (aX (aX (aX (aX (aX (aX (aX (aX (aX (aX (aX (aX SE pf2) pf3) UE) TV) UA) pf7) Sq) pf9) Qc) Qg) QG) RP) Ri) RX) QH) Ry) Qr) Qz) Rh) QE) RU) RD) Qu) Yq) XV) RJ) QY) Q6) Q8) RO) Qb
set_option maxRecDepth 100000 in
theorem LM : Tryz.prog.funcNamed Rows.evalNamesRow.func = some 4 := by kernel_rfl
set_option maxRecDepth 100000 in
theorem Oc : Tryz.f4.isInstance Tryz.prog Rows.evalNamesRow.origin Rows.evalNamesRow.targs := of_decide_eq_true (by kernel_rfl)
set_option maxRecDepth 100000 in
theorem Nf : Tryz.f4.isWrapper Tryz.prog Rows.evalNamesRow.wrapper Rows.evalNamesRow.mainSum := by unfold Func.isWrapper; first | (rw [if_pos (by decide +kernel)]; kernel_rfl) | (rw [if_neg (by decide +kernel)]; exact ⟨rfl, rfl⟩)
end Go.Proofs.YtkopaeklihhdlaaGreat
