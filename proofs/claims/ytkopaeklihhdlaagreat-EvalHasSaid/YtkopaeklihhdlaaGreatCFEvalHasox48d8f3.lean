/-
  Closed facts of EvalHas, each by the kernel. Conditions: none.
-/
import Derived.Test.YtkopaeklihhdlaaGreatCFactsoxdb7519
set_option linter.unusedSimpArgs false
set_option linter.unusedVariables false
namespace Go.Proofs.YtkopaeklihhdlaaGreat
open Go Go.Proofs
theorem Ru : (Rows.evalHasRow.wf (OpenSpec.ofChange Rows.evalHasSpec)) = true := by kernel_rfl
theorem SC : (Tryz.f3.params.all (Tryz.prog.readableRec ·)) = true := by kernel_rfl
theorem Q9 : (namedTie Tryz.prog Rows.evalHasRow.named Rows.evalHasSpec.vars) = true := by kernel_rfl
theorem Sv : ((Rows.evalHasRow.stops == [])) = true := by kernel_rfl
theorem RB : ((Rows.evalHasRow.knobs == [])) = true := by kernel_rfl
theorem OU : ((Rows.evalHasRow.inPlace == Tryz.prog.inPlace 3)) = true := by kernel_rfl
theorem OX : ((Rows.evalHasRow.unfollowed == Tryz.prog.unfollowed 3)) = true := by kernel_rfl
theorem PS : ((Rows.evalHasRow.recurses == Tryz.prog.recurses 3)) = true := by kernel_rfl
theorem Py : ((Rows.evalHasRow.named == Tryz.prog.varsNamed 3)) = true := by kernel_rfl
theorem PO : ((Rows.evalHasRow.maps == (Tryz.f3.params.toList ++ Rows.evalHasSpec.plain.varTypes Tryz.prog).any (Tryz.prog.mapsRec ·))) = true := by kernel_rfl
theorem Pt : ((Rows.evalHasRow.ifaces == (Tryz.f3.params.toList ++ Rows.evalHasSpec.plain.varTypes Tryz.prog).any (Tryz.prog.ifacesRec ·))) = true := by kernel_rfl
theorem Pj : ((Rows.evalHasRow.mapsOut == Tryz.prog.mapsAmong Tryz.f3.resultTypes.toList)) = true := by kernel_rfl
theorem OM : ((Rows.evalHasRow.loops == (Tryz.f3.params.toList ++ Rows.evalHasSpec.plain.varTypes Tryz.prog).any (Tryz.prog.loopsFrom ·))) = true := by kernel_rfl
theorem OB : ((Rows.evalHasRow.wideKeys == (Tryz.f3.params.toList ++ Rows.evalHasSpec.plain.varTypes Tryz.prog ++ Tryz.f3.resultTypes.toList).any (Tryz.prog.wideKeysFrom ·))) = true := by kernel_rfl
theorem OE : (Rows.evalHasSpec.vars.all (Tryz.prog.varReadable ·)) = true := by kernel_rfl
theorem PN : (Tryz.f3.resultTypes.all (fun t => Tryz.prog.readableRec t && decide (t < Tryz.prog.types.size))) = true := by kernel_rfl
theorem OA : ((Rows.evalHasRow.ifacesOut == Tryz.f3.resultTypes.toList.any (Tryz.prog.ifacesRec ·))) = true := by kernel_rfl
theorem Ou : ((Rows.evalHasRow.loopsOut == Tryz.f3.resultTypes.toList.any (Tryz.prog.loopsFrom ·))) = true := by kernel_rfl
theorem O7 : ((Rows.evalHasRow.plainKeys == Tryz.prog.plainKeys)) = true := by kernel_rfl
theorem Ov : (Rows.evalHasRow.shortTexts.isNone) = true := by kernel_rfl
theorem Qa : ((Rows.evalHasRow.lifted == Tryz.prog.liftsFinal)) = true := by kernel_rfl
theorem Pn : ((Tryz.prog.make == some Rows.evalHasRow.make)) = true := by kernel_rfl
theorem O1 : ((Rows.evalHasRow.kinds == (if Rows.evalHasRow.domain.isEmpty then [] else Tryz.f3.params.toList.map fun t => match Tryz.prog.underlying t with | some (.int k) => some k | _ => none))) = true := by kernel_rfl
theorem Pf : ((Rows.evalHasRow.pinned == Rows.evalHasRow.pinnedBy)) = true := by kernel_rfl
theorem Qb : ((Rows.evalHasRow.veiled == (Tryz.f3.params.toList ++ Rows.evalHasSpec.plain.varTypes Tryz.prog ++ Tryz.f3.resultTypes.toList).any (Tryz.prog.veiledRec ·))) = true := by kernel_rfl
theorem Pe : (Rows.evalHasRow.veiledFits Tryz.prog Tryz.f3.params.toList (Tryz.f3.params.toList ++ Rows.evalHasSpec.plain.varTypes Tryz.prog ++ Tryz.f3.resultTypes.toList)) = true := by kernel_rfl
set_option maxRecDepth 100000 in
theorem Ll : joinedFacts Tryz.prog 3 Tryz.f3 Rows.evalHasSpec Rows.evalHasRow = true := by
 unfold joinedFacts
 exact iQ (iQ (iQ (iQ (iQ (iQ (iQ (iQ (iQ (iQ (iQ (iQ (iQ (iQ (iQ (iQ (iQ (iQ (iQ (iQ (iQ (iQ (iQ (iQ (iQ (iQ (iQ (iQ (iQ (iQ (iQ Ru pf2) pf3) SC) Q9) Sv) pf7) RB) pf9) OU) OX) PS) Py) PO) Pt) Pj) OM) OB) OE) PN) OA) Ou) O7) Ov) ab7) abZ) Qa) Pn) O1) Pf) Qb) Pe
set_option maxRecDepth 100000 in
theorem Lp : Tryz.prog.funcNamed Rows.evalHasRow.func = some 3 := by kernel_rfl
set_option maxRecDepth 100000 in
theorem Od : Tryz.f3.isInstance Tryz.prog Rows.evalHasRow.origin Rows.evalHasRow.targs := of_decide_eq_true (by kernel_rfl)
set_option maxRecDepth 100000 in
theorem L6 : Tryz.f3.isWrapper Tryz.prog Rows.evalHasRow.wrapper Rows.evalHasRow.mainSum := by unfold Func.isWrapper; first | (rw [if_pos (by decide +kernel)]; kernel_rfl) | (rw [if_neg (by decide +kernel)]; exact ⟨rfl, rfl⟩)
end Go.Proofs.YtkopaeklihhdlaaGreat
