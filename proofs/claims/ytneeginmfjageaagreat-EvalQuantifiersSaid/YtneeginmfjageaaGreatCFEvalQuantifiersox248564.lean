/-
  Closed facts of EvalQuantifiers, each by the kernel. Conditions: none.
-/
import Derived.Test.YtneeginmfjageaaGreatCFactsox654fe9
set_option linter.all false
namespace Go.Proofs.YtneeginmfjageaaGreat
open Go Go.Proofs
theorem abL:(Rows.evalQuantifiersRow.wf (OpenSpec.ofChange Rows.evalQuantifiersSpec))=true:=by kernel_rfl
theorem ZU:(Tryz.f6.params.all (Tryz.prog.readableRec ·))=true:=by kernel_rfl
theorem ZY:(namedTie Tryz.prog Rows.evalQuantifiersRow.named Rows.evalQuantifiersSpec.vars)=true:=by kernel_rfl
theorem aaM:((Rows.evalQuantifiersRow.stops==[]))=true:=by kernel_rfl
theorem aa9:((Rows.evalQuantifiersRow.knobs==[]))=true:=by kernel_rfl
theorem YA:((Rows.evalQuantifiersRow.inPlace==Tryz.prog.inPlace 6))=true:=by kernel_rfl
theorem YT:((Rows.evalQuantifiersRow.unfollowed==Tryz.prog.unfollowed 6))=true:=by kernel_rfl
theorem Y8:((Rows.evalQuantifiersRow.recurses==Tryz.prog.recurses 6))=true:=by kernel_rfl
theorem YO:((Rows.evalQuantifiersRow.named==Tryz.prog.varsNamed 6))=true:=by kernel_rfl
theorem Ym:((Rows.evalQuantifiersRow.maps==(Tryz.f6.params.toList++Rows.evalQuantifiersSpec.plain.varTypes Tryz.prog).any (Tryz.prog.mapsRec ·)))=true:=by kernel_rfl
theorem YI:((Rows.evalQuantifiersRow.ifaces==(Tryz.f6.params.toList++Rows.evalQuantifiersSpec.plain.varTypes Tryz.prog).any (Tryz.prog.ifacesRec ·)))=true:=by kernel_rfl
theorem Zb:((Rows.evalQuantifiersRow.mapsOut==Tryz.prog.mapsAmong Tryz.f6.resultTypes.toList))=true:=by kernel_rfl
theorem YE:((Rows.evalQuantifiersRow.loops==(Tryz.f6.params.toList++Rows.evalQuantifiersSpec.plain.varTypes Tryz.prog).any (Tryz.prog.loopsFrom ·)))=true:=by kernel_rfl
theorem YD:((Rows.evalQuantifiersRow.wideKeys==(Tryz.f6.params.toList++Rows.evalQuantifiersSpec.plain.varTypes Tryz.prog++Tryz.f6.resultTypes.toList).any (Tryz.prog.wideKeysFrom ·)))=true:=by kernel_rfl
theorem Yu:(Rows.evalQuantifiersSpec.vars.all (Tryz.prog.varReadable ·))=true:=by kernel_rfl
theorem YB:(Tryz.f6.resultTypes.all (fun t=>Tryz.prog.readableRec t&&decide (t<Tryz.prog.types.size)))=true:=by kernel_rfl
theorem Yn:((Rows.evalQuantifiersRow.ifacesOut==Tryz.f6.resultTypes.toList.any (Tryz.prog.ifacesRec ·)))=true:=by kernel_rfl
theorem YR:((Rows.evalQuantifiersRow.loopsOut==Tryz.f6.resultTypes.toList.any (Tryz.prog.loopsFrom ·)))=true:=by kernel_rfl
theorem Y2:((Rows.evalQuantifiersRow.plainKeys==Tryz.prog.plainKeys))=true:=by kernel_rfl
theorem Yy:(Rows.evalQuantifiersRow.shortTexts.isNone)=true:=by kernel_rfl
theorem YQ:((Rows.evalQuantifiersRow.lifted==Tryz.prog.liftsFinal))=true:=by kernel_rfl
theorem YZ:((Tryz.prog.make==some Rows.evalQuantifiersRow.make))=true:=by kernel_rfl
theorem Yi:((Rows.evalQuantifiersRow.kinds==(if Rows.evalQuantifiersRow.domain.isEmpty then[]else Tryz.f6.params.toList.map fun t=>match Tryz.prog.underlying t with|some (.int k)=>some k|_=>none)))=true:=by kernel_rfl
theorem Y9:((Rows.evalQuantifiersRow.pinned==Rows.evalQuantifiersRow.pinnedBy))=true:=by kernel_rfl
theorem Y1:((Rows.evalQuantifiersRow.veiled==(Tryz.f6.params.toList++Rows.evalQuantifiersSpec.plain.varTypes Tryz.prog++Tryz.f6.resultTypes.toList).any (Tryz.prog.veiledRec ·)))=true:=by kernel_rfl
theorem Yx:(Rows.evalQuantifiersRow.veiledFits Tryz.prog Tryz.f6.params.toList (Tryz.f6.params.toList++Rows.evalQuantifiersSpec.plain.varTypes Tryz.prog++Tryz.f6.resultTypes.toList))=true:=by kernel_rfl
set_option maxRecDepth 100000 in
theorem UW:joinedFacts Tryz.prog 6 Tryz.f6 Rows.evalQuantifiersSpec Rows.evalQuantifiersRow=true:=by
 unfold joinedFacts;exact bg (bg (bg (bg (bg (bg (bg (bg (bg (bg (bg (bg (bg (bg (bg (bg (bg (bg (bg (bg (bg (bg (bg (bg (bg (bg (bg (bg (bg (bg (bg abL pf2) pf3) ZU) ZY) aaM) pf7) aa9) pf9) YA) YT) Y8) YO) Ym) YI) Zb) YE) YD) Yu) YB) Yn) YR) Y2) Yy) aAI) aAi) YQ) YZ) Yi) Y9) Y1) Yx
set_option maxRecDepth 100000 in
theorem Tp:Tryz.prog.funcNamed Rows.evalQuantifiersRow.func=some 6:=by kernel_rfl
set_option maxRecDepth 100000 in
theorem V3:Tryz.f6.isInstance Tryz.prog Rows.evalQuantifiersRow.origin Rows.evalQuantifiersRow.targs:=of_decide_eq_true (by kernel_rfl)
set_option maxRecDepth 100000 in
theorem VO:Tryz.f6.isWrapper Tryz.prog Rows.evalQuantifiersRow.wrapper Rows.evalQuantifiersRow.mainSum:=by unfold Func.isWrapper;first|(rw[if_pos (by decide+kernel)];kernel_rfl)|(rw[if_neg (by decide+kernel)];exact⟨rfl,rfl⟩)
end Go.Proofs.YtneeginmfjageaaGreat
