/-
  Closed facts of EvalDefined, each by the kernel. Conditions: none.
-/
import Derived.Test.YtneeginmfjageaaGreatCFactsoxbc4441
set_option linter.all false
namespace Go.Proofs.YtneeginmfjageaaGreat
open Go Go.Proofs
theorem amD:(Rows.evalDefinedRow.wf (OpenSpec.ofChange Rows.evalDefinedSpec))=true:=by kernel_rfl
theorem alq:(Tryz.f4.params.all (Tryz.prog.readableRec ·))=true:=by kernel_rfl
theorem alg:(namedTie Tryz.prog Rows.evalDefinedRow.named Rows.evalDefinedSpec.vars)=true:=by kernel_rfl
theorem amt:((Rows.evalDefinedRow.stops==[]))=true:=by kernel_rfl
theorem alH:((Rows.evalDefinedRow.knobs==[]))=true:=by kernel_rfl
theorem ai5:((Rows.evalDefinedRow.inPlace==Tryz.prog.inPlace 4))=true:=by kernel_rfl
theorem aja:((Rows.evalDefinedRow.unfollowed==Tryz.prog.unfollowed 4))=true:=by kernel_rfl
theorem ajM:((Rows.evalDefinedRow.recurses==Tryz.prog.recurses 4))=true:=by kernel_rfl
theorem aj3:((Rows.evalDefinedRow.named==Tryz.prog.varsNamed 4))=true:=by kernel_rfl
theorem ajj:((Rows.evalDefinedRow.maps==(Tryz.f4.params.toList++Rows.evalDefinedSpec.plain.varTypes Tryz.prog).any (Tryz.prog.mapsRec ·)))=true:=by kernel_rfl
theorem ajx:((Rows.evalDefinedRow.ifaces==(Tryz.f4.params.toList++Rows.evalDefinedSpec.plain.varTypes Tryz.prog).any (Tryz.prog.ifacesRec ·)))=true:=by kernel_rfl
theorem ait:((Rows.evalDefinedRow.mapsOut==Tryz.prog.mapsAmong Tryz.f4.resultTypes.toList))=true:=by kernel_rfl
theorem aiR:((Rows.evalDefinedRow.loops==(Tryz.f4.params.toList++Rows.evalDefinedSpec.plain.varTypes Tryz.prog).any (Tryz.prog.loopsFrom ·)))=true:=by kernel_rfl
theorem aj2:((Rows.evalDefinedRow.wideKeys==(Tryz.f4.params.toList++Rows.evalDefinedSpec.plain.varTypes Tryz.prog++Tryz.f4.resultTypes.toList).any (Tryz.prog.wideKeysFrom ·)))=true:=by kernel_rfl
theorem aky:(Rows.evalDefinedSpec.vars.all (Tryz.prog.varReadable ·))=true:=by kernel_rfl
theorem aiX:(Tryz.f4.resultTypes.all (fun t=>Tryz.prog.readableRec t&&decide (t<Tryz.prog.types.size)))=true:=by kernel_rfl
theorem akp:((Rows.evalDefinedRow.ifacesOut==Tryz.f4.resultTypes.toList.any (Tryz.prog.ifacesRec ·)))=true:=by kernel_rfl
theorem aiV:((Rows.evalDefinedRow.loopsOut==Tryz.f4.resultTypes.toList.any (Tryz.prog.loopsFrom ·)))=true:=by kernel_rfl
theorem ajf:((Rows.evalDefinedRow.plainKeys==Tryz.prog.plainKeys))=true:=by kernel_rfl
theorem ajK:(Rows.evalDefinedRow.shortTexts.isNone)=true:=by kernel_rfl
theorem aiy:((Rows.evalDefinedRow.lifted==Tryz.prog.liftsFinal))=true:=by kernel_rfl
theorem akA:((Tryz.prog.make==some Rows.evalDefinedRow.make))=true:=by kernel_rfl
theorem aiC:((Rows.evalDefinedRow.kinds==(if Rows.evalDefinedRow.domain.isEmpty then[]else Tryz.f4.params.toList.map fun t=>match Tryz.prog.underlying t with|some (.int k)=>some k|_=>none)))=true:=by kernel_rfl
theorem ain:((Rows.evalDefinedRow.pinned==Rows.evalDefinedRow.pinnedBy))=true:=by kernel_rfl
theorem ai2:((Rows.evalDefinedRow.veiled==(Tryz.f4.params.toList++Rows.evalDefinedSpec.plain.varTypes Tryz.prog++Tryz.f4.resultTypes.toList).any (Tryz.prog.veiledRec ·)))=true:=by kernel_rfl
theorem ajd:(Rows.evalDefinedRow.veiledFits Tryz.prog Tryz.f4.params.toList (Tryz.f4.params.toList++Rows.evalDefinedSpec.plain.varTypes Tryz.prog++Tryz.f4.resultTypes.toList))=true:=by kernel_rfl
set_option maxRecDepth 100000 in
theorem aeZ:joinedFacts Tryz.prog 4 Tryz.f4 Rows.evalDefinedSpec Rows.evalDefinedRow=true:=by
 unfold joinedFacts;exact nN (nN (nN (nN (nN (nN (nN (nN (nN (nN (nN (nN (nN (nN (nN (nN (nN (nN (nN (nN (nN (nN (nN (nN (nN (nN (nN (nN (nN (nN (nN amD pf2) pf3) alq) alg) amt) pf7) alH) pf9) ai5) aja) ajM) aj3) ajj) ajx) ait) aiR) aj2) aky) aiX) akp) aiV) ajf) ajK) aKI) aKO) aiy) akA) aiC) ain) ai2) ajd
set_option maxRecDepth 100000 in
theorem aeC:Tryz.prog.funcNamed Rows.evalDefinedRow.func=some 4:=by kernel_rfl
set_option maxRecDepth 100000 in
theorem agb:Tryz.f4.isInstance Tryz.prog Rows.evalDefinedRow.origin Rows.evalDefinedRow.targs:=of_decide_eq_true (by kernel_rfl)
set_option maxRecDepth 100000 in
theorem agu:Tryz.f4.isWrapper Tryz.prog Rows.evalDefinedRow.wrapper Rows.evalDefinedRow.mainSum:=by unfold Func.isWrapper;first|(rw[if_pos (by decide+kernel)];kernel_rfl)|(rw[if_neg (by decide+kernel)];exact⟨rfl,rfl⟩)
end Go.Proofs.YtneeginmfjageaaGreat
