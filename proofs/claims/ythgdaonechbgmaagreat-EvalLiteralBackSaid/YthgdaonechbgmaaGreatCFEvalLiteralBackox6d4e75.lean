/-
  Closed facts of EvalLiteralBack, each by the kernel. Conditions: none.
-/
import Derived.Test.YthgdaonechbgmaaGreatCFactsox14ac7a
set_option linter.all false
namespace Go.Proofs.YthgdaonechbgmaaGreat
open Go Go.Proofs
theorem EvalLiteralBack_k1:(Rows.evalLiteralBackRow.wf (OpenSpec.ofChange Rows.evalLiteralBackSpec))=true:=by kernel_rfl
theorem EvalLiteralBack_k4:(Tryz.f5.params.all (Tryz.prog.readableRec ·))=true:=by kernel_rfl
theorem EvalLiteralBack_k5:(namedTie Tryz.prog Rows.evalLiteralBackRow.named Rows.evalLiteralBackSpec.vars)=true:=by kernel_rfl
theorem EvalLiteralBack_k6:((Rows.evalLiteralBackRow.stops==[]))=true:=by kernel_rfl
theorem EvalLiteralBack_k8:((Rows.evalLiteralBackRow.knobs==[]))=true:=by kernel_rfl
theorem EvalLiteralBack_k10:((Rows.evalLiteralBackRow.inPlace==Tryz.prog.inPlace 5))=true:=by kernel_rfl
theorem EvalLiteralBack_k11:((Rows.evalLiteralBackRow.unfollowed==Tryz.prog.unfollowed 5))=true:=by kernel_rfl
theorem EvalLiteralBack_k12:((Rows.evalLiteralBackRow.recurses==Tryz.prog.recurses 5))=true:=by kernel_rfl
theorem EvalLiteralBack_k13:((Rows.evalLiteralBackRow.named==Tryz.prog.varsNamed 5))=true:=by kernel_rfl
theorem EvalLiteralBack_k14:((Rows.evalLiteralBackRow.maps==(Tryz.f5.params.toList++Rows.evalLiteralBackSpec.plain.varTypes Tryz.prog).any (Tryz.prog.mapsRec ·)))=true:=by kernel_rfl
theorem EvalLiteralBack_k15:((Rows.evalLiteralBackRow.ifaces==(Tryz.f5.params.toList++Rows.evalLiteralBackSpec.plain.varTypes Tryz.prog).any (Tryz.prog.ifacesRec ·)))=true:=by kernel_rfl
theorem EvalLiteralBack_k16:((Rows.evalLiteralBackRow.mapsOut==Tryz.prog.mapsAmong Tryz.f5.resultTypes.toList))=true:=by kernel_rfl
theorem EvalLiteralBack_k17:((Rows.evalLiteralBackRow.loops==(Tryz.f5.params.toList++Rows.evalLiteralBackSpec.plain.varTypes Tryz.prog).any (Tryz.prog.loopsFrom ·)))=true:=by kernel_rfl
theorem EvalLiteralBack_k18:((Rows.evalLiteralBackRow.wideKeys==(Tryz.f5.params.toList++Rows.evalLiteralBackSpec.plain.varTypes Tryz.prog++Tryz.f5.resultTypes.toList).any (Tryz.prog.wideKeysFrom ·)))=true:=by kernel_rfl
theorem EvalLiteralBack_k19:(Rows.evalLiteralBackSpec.vars.all (Tryz.prog.varReadable ·))=true:=by kernel_rfl
theorem EvalLiteralBack_k20:(Tryz.f5.resultTypes.all (fun t=>Tryz.prog.readableRec t&&decide (t<Tryz.prog.types.size)))=true:=by kernel_rfl
theorem EvalLiteralBack_k21:((Rows.evalLiteralBackRow.ifacesOut==Tryz.f5.resultTypes.toList.any (Tryz.prog.ifacesRec ·)))=true:=by kernel_rfl
theorem EvalLiteralBack_k22:((Rows.evalLiteralBackRow.loopsOut==Tryz.f5.resultTypes.toList.any (Tryz.prog.loopsFrom ·)))=true:=by kernel_rfl
theorem EvalLiteralBack_k23:((Rows.evalLiteralBackRow.plainKeys==Tryz.prog.plainKeys))=true:=by kernel_rfl
theorem EvalLiteralBack_k24:(Rows.evalLiteralBackRow.shortTexts.isNone)=true:=by kernel_rfl
theorem EvalLiteralBack_k27:((Rows.evalLiteralBackRow.lifted==Tryz.prog.liftsFinal))=true:=by kernel_rfl
theorem EvalLiteralBack_k28:((Tryz.prog.make==some Rows.evalLiteralBackRow.make))=true:=by kernel_rfl
theorem EvalLiteralBack_k29:((Rows.evalLiteralBackRow.kinds==(if Rows.evalLiteralBackRow.domain.isEmpty then[]else Tryz.f5.params.toList.map fun t=>match Tryz.prog.underlying t with|some (.int k)=>some k|_=>none)))=true:=by kernel_rfl
theorem EvalLiteralBack_k30:((Rows.evalLiteralBackRow.pinned==Rows.evalLiteralBackRow.pinnedBy))=true:=by kernel_rfl
theorem EvalLiteralBack_k31:((Rows.evalLiteralBackRow.veiled==(Tryz.f5.params.toList++Rows.evalLiteralBackSpec.plain.varTypes Tryz.prog++Tryz.f5.resultTypes.toList).any (Tryz.prog.veiledRec ·)))=true:=by kernel_rfl
theorem EvalLiteralBack_k32:(Rows.evalLiteralBackRow.veiledFits Tryz.prog Tryz.f5.params.toList (Tryz.f5.params.toList++Rows.evalLiteralBackSpec.plain.varTypes Tryz.prog++Tryz.f5.resultTypes.toList))=true:=by kernel_rfl
set_option maxRecDepth 100000 in
theorem EvalLiteralBack_facts:joinedFacts Tryz.prog 5 Tryz.f5 Rows.evalLiteralBackSpec Rows.evalLiteralBackRow=true:=by
 unfold joinedFacts;exact nN (nN (nN (nN (nN (nN (nN (nN (nN (nN (nN (nN (nN (nN (nN (nN (nN (nN (nN (nN (nN (nN (nN (nN (nN (nN (nN (nN (nN (nN (nN EvalLiteralBack_k1 pf2) pf3) EvalLiteralBack_k4) EvalLiteralBack_k5) EvalLiteralBack_k6) pf7) EvalLiteralBack_k8) pf9) EvalLiteralBack_k10) EvalLiteralBack_k11) EvalLiteralBack_k12) EvalLiteralBack_k13) EvalLiteralBack_k14) EvalLiteralBack_k15) EvalLiteralBack_k16) EvalLiteralBack_k17) EvalLiteralBack_k18) EvalLiteralBack_k19) EvalLiteralBack_k20) EvalLiteralBack_k21) EvalLiteralBack_k22) EvalLiteralBack_k23) EvalLiteralBack_k24) aKI) aKO) EvalLiteralBack_k27) EvalLiteralBack_k28) EvalLiteralBack_k29) EvalLiteralBack_k30) EvalLiteralBack_k31) EvalLiteralBack_k32
set_option maxRecDepth 100000 in
theorem EvalLiteralBack_named:Tryz.prog.funcNamed Rows.evalLiteralBackRow.func=some 5:=by kernel_rfl
set_option maxRecDepth 100000 in
theorem EvalLiteralBack_inst:Tryz.f5.isInstance Tryz.prog Rows.evalLiteralBackRow.origin Rows.evalLiteralBackRow.targs:=of_decide_eq_true (by kernel_rfl)
set_option maxRecDepth 100000 in
theorem EvalLiteralBack_wrap:Tryz.f5.isWrapper Tryz.prog Rows.evalLiteralBackRow.wrapper Rows.evalLiteralBackRow.mainSum:=by unfold Func.isWrapper;first|(rw[if_pos (by decide+kernel)];kernel_rfl)|(rw[if_neg (by decide+kernel)];exact⟨rfl,rfl⟩)
end Go.Proofs.YthgdaonechbgmaaGreat
