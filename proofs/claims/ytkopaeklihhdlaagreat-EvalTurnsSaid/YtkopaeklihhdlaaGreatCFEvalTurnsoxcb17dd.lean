/-
  Closed facts of EvalTurns, each by the kernel. Conditions: none.
-/
import Derived.Test.YtkopaeklihhdlaaGreatCFactsoxfeac39
set_option linter.unusedSimpArgs false
set_option linter.unusedVariables false
namespace Go.Proofs.YtkopaeklihhdlaaGreat
open Go Go.Proofs
theorem Xi : (Rows.evalTurnsRow.wf (OpenSpec.ofChange Rows.evalTurnsSpec)) = true := by kernel_rfl
theorem WA : (Tryz.f7.params.all (Tryz.prog.readableRec ·)) = true := by kernel_rfl
theorem Vu : (namedTie Tryz.prog Rows.evalTurnsRow.named Rows.evalTurnsSpec.vars) = true := by kernel_rfl
theorem VG : ((Rows.evalTurnsRow.stops == [])) = true := by kernel_rfl
theorem VB : ((Rows.evalTurnsRow.knobs == [])) = true := by kernel_rfl
theorem RZ : ((Rows.evalTurnsRow.inPlace == Tryz.prog.inPlace 7)) = true := by kernel_rfl
theorem Ru : ((Rows.evalTurnsRow.unfollowed == Tryz.prog.unfollowed 7)) = true := by kernel_rfl
theorem R9 : ((Rows.evalTurnsRow.recurses == Tryz.prog.recurses 7)) = true := by kernel_rfl
theorem SG : ((Rows.evalTurnsRow.named == Tryz.prog.varsNamed 7)) = true := by kernel_rfl
theorem RQ : ((Rows.evalTurnsRow.maps == (Tryz.f7.params.toList ++ Rows.evalTurnsSpec.plain.varTypes Tryz.prog).any (Tryz.prog.mapsRec ·))) = true := by kernel_rfl
theorem Tj : ((Rows.evalTurnsRow.ifaces == (Tryz.f7.params.toList ++ Rows.evalTurnsSpec.plain.varTypes Tryz.prog).any (Tryz.prog.ifacesRec ·))) = true := by kernel_rfl
theorem SE : ((Rows.evalTurnsRow.mapsOut == Tryz.prog.mapsAmong Tryz.f7.resultTypes.toList)) = true := by kernel_rfl
theorem TR : ((Rows.evalTurnsRow.loops == (Tryz.f7.params.toList ++ Rows.evalTurnsSpec.plain.varTypes Tryz.prog).any (Tryz.prog.loopsFrom ·))) = true := by kernel_rfl
theorem T9 : ((Rows.evalTurnsRow.wideKeys == (Tryz.f7.params.toList ++ Rows.evalTurnsSpec.plain.varTypes Tryz.prog ++ Tryz.f7.resultTypes.toList).any (Tryz.prog.wideKeysFrom ·))) = true := by kernel_rfl
theorem Sb : (Rows.evalTurnsSpec.vars.all (Tryz.prog.varReadable ·)) = true := by kernel_rfl
theorem SY : (Tryz.f7.resultTypes.all (fun t => Tryz.prog.readableRec t && decide (t < Tryz.prog.types.size))) = true := by kernel_rfl
theorem SB : ((Rows.evalTurnsRow.ifacesOut == Tryz.f7.resultTypes.toList.any (Tryz.prog.ifacesRec ·))) = true := by kernel_rfl
theorem Tc : ((Rows.evalTurnsRow.loopsOut == Tryz.f7.resultTypes.toList.any (Tryz.prog.loopsFrom ·))) = true := by kernel_rfl
theorem TU : ((Rows.evalTurnsRow.plainKeys == Tryz.prog.plainKeys)) = true := by kernel_rfl
theorem RI : (Rows.evalTurnsRow.shortTexts.isNone) = true := by kernel_rfl
theorem Tx : ((Rows.evalTurnsRow.lifted == Tryz.prog.liftsFinal)) = true := by kernel_rfl
theorem RH : ((Tryz.prog.make == some Rows.evalTurnsRow.make)) = true := by kernel_rfl
theorem SH : ((Rows.evalTurnsRow.kinds == (if Rows.evalTurnsRow.domain.isEmpty then [] else Tryz.f7.params.toList.map fun t => match Tryz.prog.underlying t with | some (.int k) => some k | _ => none))) = true := by kernel_rfl
theorem S9 : ((Rows.evalTurnsRow.pinned == Rows.evalTurnsRow.pinnedBy)) = true := by kernel_rfl
theorem Td : ((Rows.evalTurnsRow.veiled == (Tryz.f7.params.toList ++ Rows.evalTurnsSpec.plain.varTypes Tryz.prog ++ Tryz.f7.resultTypes.toList).any (Tryz.prog.veiledRec ·))) = true := by kernel_rfl
theorem TS : (Rows.evalTurnsRow.veiledFits Tryz.prog Tryz.f7.params.toList (Tryz.f7.params.toList ++ Rows.evalTurnsSpec.plain.varTypes Tryz.prog ++ Tryz.f7.resultTypes.toList)) = true := by kernel_rfl
set_option maxRecDepth 100000 in
theorem Nt : joinedFacts Tryz.prog 7 Tryz.f7 Rows.evalTurnsSpec Rows.evalTurnsRow = true := by
 unfold joinedFacts
 exact aW (aW (aW (aW (aW (aW (aW (aW (aW (aW (aW (aW (aW (aW (aW (aW (aW (aW (aW (aW (aW (aW (aW (aW (aW (aW (aW (aW (aW (aW (aW Xi pf2) pf3) WA) Vu) VG) pf7) VB) pf9) RZ) Ru) R9) SG) RQ) Tj) SE) TR) T9) Sb) SY) SB) Tc) TU) RI) Vp) Xn) Tx) RH) SH) S9) Td) TS
set_option maxRecDepth 100000 in
theorem MI : Tryz.prog.funcNamed Rows.evalTurnsRow.func = some 7 := by kernel_rfl
set_option maxRecDepth 100000 in
theorem PZ : Tryz.f7.isInstance Tryz.prog Rows.evalTurnsRow.origin Rows.evalTurnsRow.targs := of_decide_eq_true (by kernel_rfl)
set_option maxRecDepth 100000 in
theorem OV : Tryz.f7.isWrapper Tryz.prog Rows.evalTurnsRow.wrapper Rows.evalTurnsRow.mainSum := by unfold Func.isWrapper; first | (rw [if_pos (by decide +kernel)]; kernel_rfl) | (rw [if_neg (by decide +kernel)]; exact ⟨rfl, rfl⟩)
end Go.Proofs.YtkopaeklihhdlaaGreat
