/-
  Closed facts of EvalTyped, each by the kernel. Conditions: none.
-/
import Derived.Test.YtneeginmfjageaaGreatCFactsox654fe9
set_option linter.all false
namespace Go.Proofs.YtneeginmfjageaaGreat
open Go Go.Proofs
theorem arb:(Rows.evalTypedRow.wf (OpenSpec.ofChange Rows.evalTypedSpec))=true:=by kernel_rfl
theorem aq0:(Tryz.f7.params.all (Tryz.prog.readableRec ·))=true:=by kernel_rfl
theorem aoE:(namedTie Tryz.prog Rows.evalTypedRow.named Rows.evalTypedSpec.vars)=true:=by kernel_rfl
theorem arU:((Rows.evalTypedRow.stops==[]))=true:=by kernel_rfl
theorem apm:((Rows.evalTypedRow.knobs==[]))=true:=by kernel_rfl
theorem ani:((Rows.evalTypedRow.inPlace==Tryz.prog.inPlace 7))=true:=by kernel_rfl
theorem anM:((Rows.evalTypedRow.unfollowed==Tryz.prog.unfollowed 7))=true:=by kernel_rfl
theorem amZ:((Rows.evalTypedRow.recurses==Tryz.prog.recurses 7))=true:=by kernel_rfl
theorem anO:((Rows.evalTypedRow.named==Tryz.prog.varsNamed 7))=true:=by kernel_rfl
theorem amI:((Rows.evalTypedRow.maps==(Tryz.f7.params.toList++Rows.evalTypedSpec.plain.varTypes Tryz.prog).any (Tryz.prog.mapsRec ·)))=true:=by kernel_rfl
theorem anw:((Rows.evalTypedRow.ifaces==(Tryz.f7.params.toList++Rows.evalTypedSpec.plain.varTypes Tryz.prog).any (Tryz.prog.ifacesRec ·)))=true:=by kernel_rfl
theorem anF:((Rows.evalTypedRow.mapsOut==Tryz.prog.mapsAmong Tryz.f7.resultTypes.toList))=true:=by kernel_rfl
theorem anD:((Rows.evalTypedRow.loops==(Tryz.f7.params.toList++Rows.evalTypedSpec.plain.varTypes Tryz.prog).any (Tryz.prog.loopsFrom ·)))=true:=by kernel_rfl
theorem anr:((Rows.evalTypedRow.wideKeys==(Tryz.f7.params.toList++Rows.evalTypedSpec.plain.varTypes Tryz.prog++Tryz.f7.resultTypes.toList).any (Tryz.prog.wideKeysFrom ·)))=true:=by kernel_rfl
theorem anP:(Rows.evalTypedSpec.vars.all (Tryz.prog.varReadable ·))=true:=by kernel_rfl
theorem amQ:(Tryz.f7.resultTypes.all (fun t=>Tryz.prog.readableRec t&&decide (t<Tryz.prog.types.size)))=true:=by kernel_rfl
theorem amS:((Rows.evalTypedRow.ifacesOut==Tryz.f7.resultTypes.toList.any (Tryz.prog.ifacesRec ·)))=true:=by kernel_rfl
theorem am7:((Rows.evalTypedRow.loopsOut==Tryz.f7.resultTypes.toList.any (Tryz.prog.loopsFrom ·)))=true:=by kernel_rfl
theorem amK:((Rows.evalTypedRow.plainKeys==Tryz.prog.plainKeys))=true:=by kernel_rfl
theorem amN:(Rows.evalTypedRow.shortTexts.isNone)=true:=by kernel_rfl
theorem anu:((Rows.evalTypedRow.lifted==Tryz.prog.liftsFinal))=true:=by kernel_rfl
theorem amF:((Tryz.prog.make==some Rows.evalTypedRow.make))=true:=by kernel_rfl
theorem am1:((Rows.evalTypedRow.kinds==(if Rows.evalTypedRow.domain.isEmpty then[]else Tryz.f7.params.toList.map fun t=>match Tryz.prog.underlying t with|some (.int k)=>some k|_=>none)))=true:=by kernel_rfl
theorem anI:((Rows.evalTypedRow.pinned==Rows.evalTypedRow.pinnedBy))=true:=by kernel_rfl
theorem ant:((Rows.evalTypedRow.veiled==(Tryz.f7.params.toList++Rows.evalTypedSpec.plain.varTypes Tryz.prog++Tryz.f7.resultTypes.toList).any (Tryz.prog.veiledRec ·)))=true:=by kernel_rfl
theorem amW:(Rows.evalTypedRow.veiledFits Tryz.prog Tryz.f7.params.toList (Tryz.f7.params.toList++Rows.evalTypedSpec.plain.varTypes Tryz.prog++Tryz.f7.resultTypes.toList))=true:=by kernel_rfl
set_option maxRecDepth 100000 in
theorem agp:joinedFacts Tryz.prog 7 Tryz.f7 Rows.evalTypedSpec Rows.evalTypedRow=true:=by
 unfold joinedFacts;exact bg (bg (bg (bg (bg (bg (bg (bg (bg (bg (bg (bg (bg (bg (bg (bg (bg (bg (bg (bg (bg (bg (bg (bg (bg (bg (bg (bg (bg (bg (bg arb pf2) pf3) aq0) aoE) arU) pf7) apm) pf9) ani) anM) amZ) anO) amI) anw) anF) anD) anr) anP) amQ) amS) am7) amK) amN) aAI) aAi) anu) amF) am1) anI) ant) amW
set_option maxRecDepth 100000 in
theorem ahb:Tryz.prog.funcNamed Rows.evalTypedRow.func=some 7:=by kernel_rfl
set_option maxRecDepth 100000 in
theorem ajG:Tryz.f7.isInstance Tryz.prog Rows.evalTypedRow.origin Rows.evalTypedRow.targs:=of_decide_eq_true (by kernel_rfl)
set_option maxRecDepth 100000 in
theorem akP:Tryz.f7.isWrapper Tryz.prog Rows.evalTypedRow.wrapper Rows.evalTypedRow.mainSum:=by unfold Func.isWrapper;first|(rw[if_pos (by decide+kernel)];kernel_rfl)|(rw[if_neg (by decide+kernel)];exact⟨rfl,rfl⟩)
end Go.Proofs.YtneeginmfjageaaGreat
