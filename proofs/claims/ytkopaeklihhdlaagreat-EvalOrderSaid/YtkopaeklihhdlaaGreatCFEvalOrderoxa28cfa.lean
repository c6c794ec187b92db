/-
  Closed facts of EvalOrder, each by the kernel. Conditions: none.
-/
import Derived.Test.YtkopaeklihhdlaaGreatCFactsx8b2341
set_option linter.unusedSimpArgs false
set_option linter.unusedVariables false
namespace Go.Proofs.YtkopaeklihhdlaaGreat
open Go Go.Proofs
theorem Rh : (Rows.evalOrderRow.wf (OpenSpec.ofChange Rows.evalOrderSpec)) = true := by kernel_rfl
theorem QU : (Tryz.f5.params.all (Tryz.prog.readableRec ·)) = true := by kernel_rfl
theorem Qh : (namedTie Tryz.prog Rows.evalOrderRow.named Rows.evalOrderSpec.vars) = true := by kernel_rfl
theorem RB : ((Rows.evalOrderRow.stops == [])) = true := by kernel_rfl
theorem Pg : ((Rows.evalOrderRow.knobs == [])) = true := by kernel_rfl
theorem NT : ((Rows.evalOrderRow.inPlace == Tryz.prog.inPlace 5)) = true := by kernel_rfl
theorem N9 : ((Rows.evalOrderRow.unfollowed == Tryz.prog.unfollowed 5)) = true := by kernel_rfl
theorem Od : ((Rows.evalOrderRow.recurses == Tryz.prog.recurses 5)) = true := by kernel_rfl
theorem Oe : ((Rows.evalOrderRow.named == Tryz.prog.varsNamed 5)) = true := by kernel_rfl
theorem Oq : ((Rows.evalOrderRow.maps == (Tryz.f5.params.toList ++ Rows.evalOrderSpec.plain.varTypes Tryz.prog).any (Tryz.prog.mapsRec ·))) = true := by kernel_rfl
theorem Oh : ((Rows.evalOrderRow.ifaces == (Tryz.f5.params.toList ++ Rows.evalOrderSpec.plain.varTypes Tryz.prog).any (Tryz.prog.ifacesRec ·))) = true := by kernel_rfl
theorem OB : ((Rows.evalOrderRow.mapsOut == Tryz.prog.mapsAmong Tryz.f5.resultTypes.toList)) = true := by kernel_rfl
theorem Nw : ((Rows.evalOrderRow.loops == (Tryz.f5.params.toList ++ Rows.evalOrderSpec.plain.varTypes Tryz.prog).any (Tryz.prog.loopsFrom ·))) = true := by kernel_rfl
theorem OT : ((Rows.evalOrderRow.wideKeys == (Tryz.f5.params.toList ++ Rows.evalOrderSpec.plain.varTypes Tryz.prog ++ Tryz.f5.resultTypes.toList).any (Tryz.prog.wideKeysFrom ·))) = true := by kernel_rfl
theorem OQ : (Rows.evalOrderSpec.vars.all (Tryz.prog.varReadable ·)) = true := by kernel_rfl
theorem OO : (Tryz.f5.resultTypes.all (fun t => Tryz.prog.readableRec t && decide (t < Tryz.prog.types.size))) = true := by kernel_rfl
theorem OG : ((Rows.evalOrderRow.ifacesOut == Tryz.f5.resultTypes.toList.any (Tryz.prog.ifacesRec ·))) = true := by kernel_rfl
theorem Ov : ((Rows.evalOrderRow.loopsOut == Tryz.f5.resultTypes.toList.any (Tryz.prog.loopsFrom ·))) = true := by kernel_rfl
theorem NI : ((Rows.evalOrderRow.plainKeys == Tryz.prog.plainKeys)) = true := by kernel_rfl
theorem NP : (Rows.evalOrderRow.shortTexts.isNone) = true := by kernel_rfl
theorem OP : ((Rows.evalOrderRow.lifted == Tryz.prog.liftsFinal)) = true := by kernel_rfl
theorem OA : ((Tryz.prog.make == some Rows.evalOrderRow.make)) = true := by kernel_rfl
theorem OY : ((Rows.evalOrderRow.kinds == (if Rows.evalOrderRow.domain.isEmpty then [] else Tryz.f5.params.toList.map fun t => match Tryz.prog.underlying t with | some (.int k) => some k | _ => none))) = true := by kernel_rfl
theorem Oz : ((Rows.evalOrderRow.pinned == Rows.evalOrderRow.pinnedBy)) = true := by kernel_rfl
theorem NM : ((Rows.evalOrderRow.veiled == (Tryz.f5.params.toList ++ Rows.evalOrderSpec.plain.varTypes Tryz.prog ++ Tryz.f5.resultTypes.toList).any (Tryz.prog.veiledRec ·))) = true := by kernel_rfl
theorem Ob : (Rows.evalOrderRow.veiledFits Tryz.prog Tryz.f5.params.toList (Tryz.f5.params.toList ++ Rows.evalOrderSpec.plain.varTypes Tryz.prog ++ Tryz.f5.resultTypes.toList)) = true := by kernel_rfl
set_option maxRecDepth 100000 in
theorem JG : joinedFacts Tryz.prog 5 Tryz.f5 Rows.evalOrderSpec Rows.evalOrderRow = true := by
 unfold joinedFacts
 exact bg (bg (bg (bg (bg (bg (bg (bg (bg (bg (bg (bg (bg (bg (bg (bg (bg (bg (bg (bg (bg (bg (bg (bg (bg (bg (bg (bg (bg (bg (bg Rh pf2) pf3) QU) Qh) RB) pf7) Pg) pf9) NT) N9) Od) Oe) Oq) Oh) OB) Nw) OT) OQ) OO) OG) Ov) NI) NP) Yk) YO) OP) OA) OY) Oz) NM) Ob
set_option maxRecDepth 100000 in
theorem JW : Tryz.prog.funcNamed Rows.evalOrderRow.func = some 5 := by kernel_rfl
set_option maxRecDepth 100000 in
theorem KE : Tryz.f5.isInstance Tryz.prog Rows.evalOrderRow.origin Rows.evalOrderRow.targs := of_decide_eq_true (by kernel_rfl)
set_option maxRecDepth 100000 in
theorem Lf : Tryz.f5.isWrapper Tryz.prog Rows.evalOrderRow.wrapper Rows.evalOrderRow.mainSum := by unfold Func.isWrapper; first | (rw [if_pos (by decide +kernel)]; kernel_rfl) | (rw [if_neg (by decide +kernel)]; exact ⟨rfl, rfl⟩)
end Go.Proofs.YtkopaeklihhdlaaGreat
