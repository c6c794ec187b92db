/-
  Closed facts of EvalSets, each by the kernel. Conditions: none.
-/
import Derived.Test.YtneeginmfjageaaGreatCFactsoxd21f7f
set_option linter.unusedSimpArgs false
set_option linter.unusedVariables false
namespace Go.Proofs.YtneeginmfjageaaGreat
open Go Go.Proofs
theorem arh:(Rows.evalSetsRow.wf (OpenSpec.ofChange Rows.evalSetsSpec))=true:=by kernel_rfl
theorem aqP:(Tryz.f8.params.all (Tryz.prog.readableRec ·))=true:=by kernel_rfl
theorem aqt:(namedTie Tryz.prog Rows.evalSetsRow.named Rows.evalSetsSpec.vars)=true:=by kernel_rfl
theorem aqu:((Rows.evalSetsRow.stops==[]))=true:=by kernel_rfl
theorem aq2:((Rows.evalSetsRow.knobs==[]))=true:=by kernel_rfl
theorem ao5:((Rows.evalSetsRow.inPlace==Tryz.prog.inPlace 8))=true:=by kernel_rfl
theorem aoM:((Rows.evalSetsRow.unfollowed==Tryz.prog.unfollowed 8))=true:=by kernel_rfl
theorem ao8:((Rows.evalSetsRow.recurses==Tryz.prog.recurses 8))=true:=by kernel_rfl
theorem amF:((Rows.evalSetsRow.named==Tryz.prog.varsNamed 8))=true:=by kernel_rfl
theorem aoZ:((Rows.evalSetsRow.maps==(Tryz.f8.params.toList++Rows.evalSetsSpec.plain.varTypes Tryz.prog).any (Tryz.prog.mapsRec ·)))=true:=by kernel_rfl
theorem aor:((Rows.evalSetsRow.ifaces==(Tryz.f8.params.toList++Rows.evalSetsSpec.plain.varTypes Tryz.prog).any (Tryz.prog.ifacesRec ·)))=true:=by kernel_rfl
theorem aoA:((Rows.evalSetsRow.mapsOut==Tryz.prog.mapsAmong Tryz.f8.resultTypes.toList))=true:=by kernel_rfl
theorem anm:((Rows.evalSetsRow.loops==(Tryz.f8.params.toList++Rows.evalSetsSpec.plain.varTypes Tryz.prog).any (Tryz.prog.loopsFrom ·)))=true:=by kernel_rfl
theorem aog:((Rows.evalSetsRow.wideKeys==(Tryz.f8.params.toList++Rows.evalSetsSpec.plain.varTypes Tryz.prog++Tryz.f8.resultTypes.toList).any (Tryz.prog.wideKeysFrom ·)))=true:=by kernel_rfl
theorem an3:(Rows.evalSetsSpec.vars.all (Tryz.prog.varReadable ·))=true:=by kernel_rfl
theorem apG:(Tryz.f8.resultTypes.all (fun t=>Tryz.prog.readableRec t&&decide (t<Tryz.prog.types.size)))=true:=by kernel_rfl
theorem amu:((Rows.evalSetsRow.ifacesOut==Tryz.f8.resultTypes.toList.any (Tryz.prog.ifacesRec ·)))=true:=by kernel_rfl
theorem apY:((Rows.evalSetsRow.loopsOut==Tryz.f8.resultTypes.toList.any (Tryz.prog.loopsFrom ·)))=true:=by kernel_rfl
theorem anA:((Rows.evalSetsRow.plainKeys==Tryz.prog.plainKeys))=true:=by kernel_rfl
theorem aoc:(Rows.evalSetsRow.shortTexts.isNone)=true:=by kernel_rfl
theorem apj:((Rows.evalSetsRow.lifted==Tryz.prog.liftsFinal))=true:=by kernel_rfl
theorem aoY:((Tryz.prog.make==some Rows.evalSetsRow.make))=true:=by kernel_rfl
theorem ap7:((Rows.evalSetsRow.kinds==(if Rows.evalSetsRow.domain.isEmpty then[] else Tryz.f8.params.toList.map fun t=>match Tryz.prog.underlying t with | some (.int k)=>some k | _=>none)))=true:=by kernel_rfl
theorem amj:((Rows.evalSetsRow.pinned==Rows.evalSetsRow.pinnedBy))=true:=by kernel_rfl
theorem anQ:((Rows.evalSetsRow.veiled==(Tryz.f8.params.toList++Rows.evalSetsSpec.plain.varTypes Tryz.prog++Tryz.f8.resultTypes.toList).any (Tryz.prog.veiledRec ·)))=true:=by kernel_rfl
theorem amL:(Rows.evalSetsRow.veiledFits Tryz.prog Tryz.f8.params.toList (Tryz.f8.params.toList++Rows.evalSetsSpec.plain.varTypes Tryz.prog++Tryz.f8.resultTypes.toList))=true:=by kernel_rfl
set_option maxRecDepth 100000 in
theorem ai3:joinedFacts Tryz.prog 8 Tryz.f8 Rows.evalSetsSpec Rows.evalSetsRow=true:=by
 unfold joinedFacts;exact lQ (lQ (lQ (lQ (lQ (lQ (lQ (lQ (lQ (lQ (lQ (lQ (lQ (lQ (lQ (lQ (lQ (lQ (lQ (lQ (lQ (lQ (lQ (lQ (lQ (lQ (lQ (lQ (lQ (lQ (lQ arh pf2) pf3) aqP) aqt) aqu) pf7) aq2) pf9) ao5) aoM) ao8) amF) aoZ) aor) aoA) anm) aog) an3) apG) amu) apY) anA) aoc) aGj) aG7) apj) aoY) ap7) amj) anQ) amL
set_option maxRecDepth 100000 in
theorem ahG:Tryz.prog.funcNamed Rows.evalSetsRow.func=some 8:=by kernel_rfl
set_option maxRecDepth 100000 in
theorem akQ:Tryz.f8.isInstance Tryz.prog Rows.evalSetsRow.origin Rows.evalSetsRow.targs:=of_decide_eq_true (by kernel_rfl)
set_option maxRecDepth 100000 in
theorem alJ:Tryz.f8.isWrapper Tryz.prog Rows.evalSetsRow.wrapper Rows.evalSetsRow.mainSum:=by unfold Func.isWrapper;first | (rw[if_pos (by decide+kernel)];kernel_rfl) | (rw[if_neg (by decide+kernel)];exact⟨rfl,rfl⟩)
end Go.Proofs.YtneeginmfjageaaGreat
