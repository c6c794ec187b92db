/-
  Closed facts of EvalDecided, each by the kernel. Conditions: none.
-/
import Derived.Test.YtneeginmfjageaaGreatCFactsox654fe9
set_option linter.all false
namespace Go.Proofs.YtneeginmfjageaaGreat
open Go Go.Proofs
theorem ajp:(Rows.evalDecidedRow.wf (OpenSpec.ofChange Rows.evalDecidedSpec))=true:=by kernel_rfl
theorem akn:(Tryz.f5.params.all (Tryz.prog.readableRec ·))=true:=by kernel_rfl
theorem akR:(namedTie Tryz.prog Rows.evalDecidedRow.named Rows.evalDecidedSpec.vars)=true:=by kernel_rfl
theorem ajm:((Rows.evalDecidedRow.stops==[]))=true:=by kernel_rfl
theorem ajt:((Rows.evalDecidedRow.knobs==[]))=true:=by kernel_rfl
theorem agv:((Rows.evalDecidedRow.inPlace==Tryz.prog.inPlace 5))=true:=by kernel_rfl
theorem agw:((Rows.evalDecidedRow.unfollowed==Tryz.prog.unfollowed 5))=true:=by kernel_rfl
theorem agn:((Rows.evalDecidedRow.recurses==Tryz.prog.recurses 5))=true:=by kernel_rfl
theorem ag9:((Rows.evalDecidedRow.named==Tryz.prog.varsNamed 5))=true:=by kernel_rfl
theorem aiI:((Rows.evalDecidedRow.maps==(Tryz.f5.params.toList++Rows.evalDecidedSpec.plain.varTypes Tryz.prog).any (Tryz.prog.mapsRec ·)))=true:=by kernel_rfl
theorem ag7:((Rows.evalDecidedRow.ifaces==(Tryz.f5.params.toList++Rows.evalDecidedSpec.plain.varTypes Tryz.prog).any (Tryz.prog.ifacesRec ·)))=true:=by kernel_rfl
theorem aiG:((Rows.evalDecidedRow.mapsOut==Tryz.prog.mapsAmong Tryz.f5.resultTypes.toList))=true:=by kernel_rfl
theorem ahS:((Rows.evalDecidedRow.loops==(Tryz.f5.params.toList++Rows.evalDecidedSpec.plain.varTypes Tryz.prog).any (Tryz.prog.loopsFrom ·)))=true:=by kernel_rfl
theorem aiv:((Rows.evalDecidedRow.wideKeys==(Tryz.f5.params.toList++Rows.evalDecidedSpec.plain.varTypes Tryz.prog++Tryz.f5.resultTypes.toList).any (Tryz.prog.wideKeysFrom ·)))=true:=by kernel_rfl
theorem ahr:(Rows.evalDecidedSpec.vars.all (Tryz.prog.varReadable ·))=true:=by kernel_rfl
theorem aiw:(Tryz.f5.resultTypes.all (fun t=>Tryz.prog.readableRec t&&decide (t<Tryz.prog.types.size)))=true:=by kernel_rfl
theorem afK:((Rows.evalDecidedRow.ifacesOut==Tryz.f5.resultTypes.toList.any (Tryz.prog.ifacesRec ·)))=true:=by kernel_rfl
theorem ags:((Rows.evalDecidedRow.loopsOut==Tryz.f5.resultTypes.toList.any (Tryz.prog.loopsFrom ·)))=true:=by kernel_rfl
theorem agu:((Rows.evalDecidedRow.plainKeys==Tryz.prog.plainKeys))=true:=by kernel_rfl
theorem ahQ:(Rows.evalDecidedRow.shortTexts.isNone)=true:=by kernel_rfl
theorem aiL:((Rows.evalDecidedRow.lifted==Tryz.prog.liftsFinal))=true:=by kernel_rfl
theorem agf:((Tryz.prog.make==some Rows.evalDecidedRow.make))=true:=by kernel_rfl
theorem ahT:((Rows.evalDecidedRow.kinds==(if Rows.evalDecidedRow.domain.isEmpty then[]else Tryz.f5.params.toList.map fun t=>match Tryz.prog.underlying t with|some (.int k)=>some k|_=>none)))=true:=by kernel_rfl
theorem af5:((Rows.evalDecidedRow.pinned==Rows.evalDecidedRow.pinnedBy))=true:=by kernel_rfl
theorem ah5:((Rows.evalDecidedRow.veiled==(Tryz.f5.params.toList++Rows.evalDecidedSpec.plain.varTypes Tryz.prog++Tryz.f5.resultTypes.toList).any (Tryz.prog.veiledRec ·)))=true:=by kernel_rfl
theorem agz:(Rows.evalDecidedRow.veiledFits Tryz.prog Tryz.f5.params.toList (Tryz.f5.params.toList++Rows.evalDecidedSpec.plain.varTypes Tryz.prog++Tryz.f5.resultTypes.toList))=true:=by kernel_rfl
set_option maxRecDepth 100000 in
theorem acv:joinedFacts Tryz.prog 5 Tryz.f5 Rows.evalDecidedSpec Rows.evalDecidedRow=true:=by
 unfold joinedFacts;exact bg (bg (bg (bg (bg (bg (bg (bg (bg (bg (bg (bg (bg (bg (bg (bg (bg (bg (bg (bg (bg (bg (bg (bg (bg (bg (bg (bg (bg (bg (bg ajp pf2) pf3) akn) akR) ajm) pf7) ajt) pf9) agv) agw) agn) ag9) aiI) ag7) aiG) ahS) aiv) ahr) aiw) afK) ags) agu) ahQ) aAI) aAi) aiL) agf) ahT) af5) ah5) agz
set_option maxRecDepth 100000 in
theorem acY:Tryz.prog.funcNamed Rows.evalDecidedRow.func=some 5:=by kernel_rfl
set_option maxRecDepth 100000 in
theorem afs:Tryz.f5.isInstance Tryz.prog Rows.evalDecidedRow.origin Rows.evalDecidedRow.targs:=of_decide_eq_true (by kernel_rfl)
set_option maxRecDepth 100000 in
theorem aeK:Tryz.f5.isWrapper Tryz.prog Rows.evalDecidedRow.wrapper Rows.evalDecidedRow.mainSum:=by unfold Func.isWrapper;first|(rw[if_pos (by decide+kernel)];kernel_rfl)|(rw[if_neg (by decide+kernel)];exact⟨rfl,rfl⟩)
end Go.Proofs.YtneeginmfjageaaGreat
