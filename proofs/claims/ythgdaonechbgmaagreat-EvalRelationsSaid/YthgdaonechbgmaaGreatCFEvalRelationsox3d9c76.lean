/-
  Closed facts of EvalRelations, each by the kernel. Conditions: none.
-/
import Derived.Test.YthgdaonechbgmaaGreatCFactsox14ac7a
set_option linter.all false
namespace Go.Proofs.YthgdaonechbgmaaGreat
open Go Go.Proofs
theorem EvalRelations_k1:(Rows.evalRelationsRow.wf (OpenSpec.ofChange Rows.evalRelationsSpec))=true:=by kernel_rfl
theorem EvalRelations_k4:(Tryz.f3.params.all (Tryz.prog.readableRec ·))=true:=by kernel_rfl
theorem EvalRelations_k5:(namedTie Tryz.prog Rows.evalRelationsRow.named Rows.evalRelationsSpec.vars)=true:=by kernel_rfl
theorem EvalRelations_k6:((Rows.evalRelationsRow.stops==[]))=true:=by kernel_rfl
theorem EvalRelations_k8:((Rows.evalRelationsRow.knobs==[]))=true:=by kernel_rfl
theorem EvalRelations_k10:((Rows.evalRelationsRow.inPlace==Tryz.prog.inPlace 3))=true:=by kernel_rfl
theorem EvalRelations_k11:((Rows.evalRelationsRow.unfollowed==Tryz.prog.unfollowed 3))=true:=by kernel_rfl
theorem EvalRelations_k12:((Rows.evalRelationsRow.recurses==Tryz.prog.recurses 3))=true:=by kernel_rfl
theorem EvalRelations_k13:((Rows.evalRelationsRow.named==Tryz.prog.varsNamed 3))=true:=by kernel_rfl
theorem EvalRelations_k14:((Rows.evalRelationsRow.maps==(Tryz.f3.params.toList++Rows.evalRelationsSpec.plain.varTypes Tryz.prog).any (Tryz.prog.mapsRec ·)))=true:=by kernel_rfl
theorem EvalRelations_k15:((Rows.evalRelationsRow.ifaces==(Tryz.f3.params.toList++Rows.evalRelationsSpec.plain.varTypes Tryz.prog).any (Tryz.prog.ifacesRec ·)))=true:=by kernel_rfl
theorem EvalRelations_k16:((Rows.evalRelationsRow.mapsOut==Tryz.prog.mapsAmong Tryz.f3.resultTypes.toList))=true:=by kernel_rfl
theorem EvalRelations_k17:((Rows.evalRelationsRow.loops==(Tryz.f3.params.toList++Rows.evalRelationsSpec.plain.varTypes Tryz.prog).any (Tryz.prog.loopsFrom ·)))=true:=by kernel_rfl
theorem EvalRelations_k18:((Rows.evalRelationsRow.wideKeys==(Tryz.f3.params.toList++Rows.evalRelationsSpec.plain.varTypes Tryz.prog++Tryz.f3.resultTypes.toList).any (Tryz.prog.wideKeysFrom ·)))=true:=by kernel_rfl
theorem EvalRelations_k19:(Rows.evalRelationsSpec.vars.all (Tryz.prog.varReadable ·))=true:=by kernel_rfl
theorem EvalRelations_k20:(Tryz.f3.resultTypes.all (fun t=>Tryz.prog.readableRec t&&decide (t<Tryz.prog.types.size)))=true:=by kernel_rfl
theorem EvalRelations_k21:((Rows.evalRelationsRow.ifacesOut==Tryz.f3.resultTypes.toList.any (Tryz.prog.ifacesRec ·)))=true:=by kernel_rfl
theorem EvalRelations_k22:((Rows.evalRelationsRow.loopsOut==Tryz.f3.resultTypes.toList.any (Tryz.prog.loopsFrom ·)))=true:=by kernel_rfl
theorem EvalRelations_k23:((Rows.evalRelationsRow.plainKeys==Tryz.prog.plainKeys))=true:=by kernel_rfl
theorem EvalRelations_k24:(Rows.evalRelationsRow.shortTexts.isNone)=true:=by kernel_rfl
theorem EvalRelations_k27:((Rows.evalRelationsRow.lifted==Tryz.prog.liftsFinal))=true:=by kernel_rfl
theorem EvalRelations_k28:((Tryz.prog.make==some Rows.evalRelationsRow.make))=true:=by kernel_rfl
theorem EvalRelations_k29:((Rows.evalRelationsRow.kinds==(if Rows.evalRelationsRow.domain.isEmpty then[]else Tryz.f3.params.toList.map fun t=>match Tryz.prog.underlying t with|some (.int k)=>some k|_=>none)))=true:=by kernel_rfl
theorem EvalRelations_k30:((Rows.evalRelationsRow.pinned==Rows.evalRelationsRow.pinnedBy))=true:=by kernel_rfl
theorem EvalRelations_k31:((Rows.evalRelationsRow.veiled==(Tryz.f3.params.toList++Rows.evalRelationsSpec.plain.varTypes Tryz.prog++Tryz.f3.resultTypes.toList).any (Tryz.prog.veiledRec ·)))=true:=by kernel_rfl
theorem EvalRelations_k32:(Rows.evalRelationsRow.veiledFits Tryz.prog Tryz.f3.params.toList (Tryz.f3.params.toList++Rows.evalRelationsSpec.plain.varTypes Tryz.prog++Tryz.f3.resultTypes.toList))=true:=by kernel_rfl
set_option maxRecDepth 100000 in
theorem EvalRelations_facts:joinedFacts Tryz.prog 3 Tryz.f3 Rows.evalRelationsSpec Rows.evalRelationsRow=true:=by
 unfold joinedFacts;exact nN (nN (nN (nN (nN (nN (nN (nN (nN (nN (nN (nN (nN (nN (nN (nN (nN (nN (nN (nN (nN (nN (nN (nN (nN (nN (nN (nN (nN (nN (nN EvalRelations_k1 pf2) pf3) EvalRelations_k4) EvalRelations_k5) EvalRelations_k6) pf7) EvalRelations_k8) pf9) EvalRelations_k10) EvalRelations_k11) EvalRelations_k12) EvalRelations_k13) EvalRelations_k14) EvalRelations_k15) EvalRelations_k16) EvalRelations_k17) EvalRelations_k18) EvalRelations_k19) EvalRelations_k20) EvalRelations_k21) EvalRelations_k22) EvalRelations_k23) EvalRelations_k24) aKI) aKO) EvalRelations_k27) EvalRelations_k28) EvalRelations_k29) EvalRelations_k30) EvalRelations_k31) EvalRelations_k32
set_option maxRecDepth 100000 in
theorem EvalRelations_named:Tryz.prog.funcNamed Rows.evalRelationsRow.func=some 3:=by kernel_rfl
set_option maxRecDepth 100000 in
theorem EvalRelations_inst:Tryz.f3.isInstance Tryz.prog Rows.evalRelationsRow.origin Rows.evalRelationsRow.targs:=of_decide_eq_true (by kernel_rfl)
set_option maxRecDepth 100000 in
theorem EvalRelations_wrap:Tryz.f3.isWrapper Tryz.prog Rows.evalRelationsRow.wrapper Rows.evalRelationsRow.mainSum:=by unfold Func.isWrapper;first|(rw[if_pos (by decide+kernel)];kernel_rfl)|(rw[if_neg (by decide+kernel)];exact⟨rfl,rfl⟩)
end Go.Proofs.YthgdaonechbgmaaGreat
