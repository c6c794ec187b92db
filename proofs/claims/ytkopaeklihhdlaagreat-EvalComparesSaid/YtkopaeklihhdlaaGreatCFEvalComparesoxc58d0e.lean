/-
  Closed facts of EvalCompares, each by the kernel. Conditions: none.
-/
import Derived.Test.YtkopaeklihhdlaaGreatCFactsx8b2341
set_option linter.unusedSimpArgs false
set_option linter.unusedVariables false
namespace Go.Proofs.YtkopaeklihhdlaaGreat
open Go Go.Proofs
theorem Jo : (Rows.evalComparesRow.wf (OpenSpec.ofChange Rows.evalComparesSpec)) = true := by kernel_rfl
theorem J7 : (Tryz.f6.params.all (Tryz.prog.readableRec ·)) = true := by kernel_rfl
theorem Jz : (namedTie Tryz.prog Rows.evalComparesRow.named Rows.evalComparesSpec.vars) = true := by kernel_rfl
theorem Jm : ((Rows.evalComparesRow.stops == [])) = true := by kernel_rfl
theorem Ji : ((Rows.evalComparesRow.knobs == [])) = true := by kernel_rfl
theorem HZ : ((Rows.evalComparesRow.inPlace == Tryz.prog.inPlace 6)) = true := by kernel_rfl
theorem Io : ((Rows.evalComparesRow.unfollowed == Tryz.prog.unfollowed 6)) = true := by kernel_rfl
theorem Ic : ((Rows.evalComparesRow.recurses == Tryz.prog.recurses 6)) = true := by kernel_rfl
theorem Ia : ((Rows.evalComparesRow.named == Tryz.prog.varsNamed 6)) = true := by kernel_rfl
theorem Ie : ((Rows.evalComparesRow.maps == (Tryz.f6.params.toList ++ Rows.evalComparesSpec.plain.varTypes Tryz.prog).any (Tryz.prog.mapsRec ·))) = true := by kernel_rfl
theorem IW : ((Rows.evalComparesRow.ifaces == (Tryz.f6.params.toList ++ Rows.evalComparesSpec.plain.varTypes Tryz.prog).any (Tryz.prog.ifacesRec ·))) = true := by kernel_rfl
theorem I8 : ((Rows.evalComparesRow.mapsOut == Tryz.prog.mapsAmong Tryz.f6.resultTypes.toList)) = true := by kernel_rfl
theorem IK : ((Rows.evalComparesRow.loops == (Tryz.f6.params.toList ++ Rows.evalComparesSpec.plain.varTypes Tryz.prog).any (Tryz.prog.loopsFrom ·))) = true := by kernel_rfl
theorem Hz : ((Rows.evalComparesRow.wideKeys == (Tryz.f6.params.toList ++ Rows.evalComparesSpec.plain.varTypes Tryz.prog ++ Tryz.f6.resultTypes.toList).any (Tryz.prog.wideKeysFrom ·))) = true := by kernel_rfl
theorem Hg : (Rows.evalComparesSpec.vars.all (Tryz.prog.varReadable ·)) = true := by kernel_rfl
theorem Il : (Tryz.f6.resultTypes.all (fun t => Tryz.prog.readableRec t && decide (t < Tryz.prog.types.size))) = true := by kernel_rfl
theorem I6 : ((Rows.evalComparesRow.ifacesOut == Tryz.f6.resultTypes.toList.any (Tryz.prog.ifacesRec ·))) = true := by kernel_rfl
theorem IE : ((Rows.evalComparesRow.loopsOut == Tryz.f6.resultTypes.toList.any (Tryz.prog.loopsFrom ·))) = true := by kernel_rfl
theorem Iw : ((Rows.evalComparesRow.plainKeys == Tryz.prog.plainKeys)) = true := by kernel_rfl
theorem H9 : (Rows.evalComparesRow.shortTexts.isNone) = true := by kernel_rfl
theorem IJ : ((Rows.evalComparesRow.lifted == Tryz.prog.liftsFinal)) = true := by kernel_rfl
theorem Hl : ((Tryz.prog.make == some Rows.evalComparesRow.make)) = true := by kernel_rfl
theorem IZ : ((Rows.evalComparesRow.kinds == (if Rows.evalComparesRow.domain.isEmpty then [] else Tryz.f6.params.toList.map fun t => match Tryz.prog.underlying t with | some (.int k) => some k | _ => none))) = true := by kernel_rfl
theorem Ii : ((Rows.evalComparesRow.pinned == Rows.evalComparesRow.pinnedBy)) = true := by kernel_rfl
theorem H8 : ((Rows.evalComparesRow.veiled == (Tryz.f6.params.toList ++ Rows.evalComparesSpec.plain.varTypes Tryz.prog ++ Tryz.f6.resultTypes.toList).any (Tryz.prog.veiledRec ·))) = true := by kernel_rfl
theorem Hw : (Rows.evalComparesRow.veiledFits Tryz.prog Tryz.f6.params.toList (Tryz.f6.params.toList ++ Rows.evalComparesSpec.plain.varTypes Tryz.prog ++ Tryz.f6.resultTypes.toList)) = true := by kernel_rfl
set_option maxRecDepth 100000 in
theorem E5 : joinedFacts Tryz.prog 6 Tryz.f6 Rows.evalComparesSpec Rows.evalComparesRow = true := by
 unfold joinedFacts
 exact bg (bg (bg (bg (bg (bg (bg (bg (bg (bg (bg (bg (bg (bg (bg (bg (bg (bg (bg (bg (bg (bg (bg (bg (bg (bg (bg (bg (bg (bg (bg Jo pf2) pf3) J7) Jz) Jm) pf7) Ji) pf9) HZ) Io) Ic) Ia) Ie) IW) I8) IK) Hz) Hg) Il) I6) IE) Iw) H9) Yk) YO) IJ) Hl) IZ) Ii) H8) Hw
set_option maxRecDepth 100000 in
theorem Fe : Tryz.prog.funcNamed Rows.evalComparesRow.func = some 6 := by kernel_rfl
set_option maxRecDepth 100000 in
theorem F8 : Tryz.f6.isInstance Tryz.prog Rows.evalComparesRow.origin Rows.evalComparesRow.targs := of_decide_eq_true (by kernel_rfl)
set_option maxRecDepth 100000 in
theorem F4 : Tryz.f6.isWrapper Tryz.prog Rows.evalComparesRow.wrapper Rows.evalComparesRow.mainSum := by unfold Func.isWrapper; first | (rw [if_pos (by decide +kernel)]; kernel_rfl) | (rw [if_neg (by decide +kernel)]; exact ⟨rfl, rfl⟩)
end Go.Proofs.YtkopaeklihhdlaaGreat
