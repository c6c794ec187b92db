/-
  Closed facts of EvalSymmetry, each by the kernel. Conditions: none.
-/
import Derived.Test.YthgdaonechbgmaaGreatCFactsox14ac7a
set_option linter.all false
namespace Go.Proofs.YthgdaonechbgmaaGreat
open Go Go.Proofs
theorem EvalSymmetry_k1:(Rows.evalSymmetryRow.wf (OpenSpec.ofChange Rows.evalSymmetrySpec))=true:=by kernel_rfl
theorem EvalSymmetry_k4:(Tryz.f4.params.all (Tryz.prog.readableRec ·))=true:=by kernel_rfl
theorem EvalSymmetry_k5:(namedTie Tryz.prog Rows.evalSymmetryRow.named Rows.evalSymmetrySpec.vars)=true:=by kernel_rfl
theorem EvalSymmetry_k6:((Rows.evalSymmetryRow.stops==[]))=true:=by kernel_rfl
theorem EvalSymmetry_k8:((Rows.evalSymmetryRow.knobs==[]))=true:=by kernel_rfl
theorem EvalSymmetry_k10:((Rows.evalSymmetryRow.inPlace==Tryz.prog.inPlace 4))=true:=by kernel_rfl
theorem EvalSymmetry_k11:((Rows.evalSymmetryRow.unfollowed==Tryz.prog.unfollowed 4))=true:=by kernel_rfl
theorem EvalSymmetry_k12:((Rows.evalSymmetryRow.recurses==Tryz.prog.recurses 4))=true:=by kernel_rfl
theorem EvalSymmetry_k13:((Rows.evalSymmetryRow.named==Tryz.prog.varsNamed 4))=true:=by kernel_rfl
theorem EvalSymmetry_k14:((Rows.evalSymmetryRow.maps==(Tryz.f4.params.toList++Rows.evalSymmetrySpec.plain.varTypes Tryz.prog).any (Tryz.prog.mapsRec ·)))=true:=by kernel_rfl
theorem EvalSymmetry_k15:((Rows.evalSymmetryRow.ifaces==(Tryz.f4.params.toList++Rows.evalSymmetrySpec.plain.varTypes Tryz.prog).any (Tryz.prog.ifacesRec ·)))=true:=by kernel_rfl
theorem EvalSymmetry_k16:((Rows.evalSymmetryRow.mapsOut==Tryz.prog.mapsAmong Tryz.f4.resultTypes.toList))=true:=by kernel_rfl
theorem EvalSymmetry_k17:((Rows.evalSymmetryRow.loops==(Tryz.f4.params.toList++Rows.evalSymmetrySpec.plain.varTypes Tryz.prog).any (Tryz.prog.loopsFrom ·)))=true:=by kernel_rfl
theorem EvalSymmetry_k18:((Rows.evalSymmetryRow.wideKeys==(Tryz.f4.params.toList++Rows.evalSymmetrySpec.plain.varTypes Tryz.prog++Tryz.f4.resultTypes.toList).any (Tryz.prog.wideKeysFrom ·)))=true:=by kernel_rfl
theorem EvalSymmetry_k19:(Rows.evalSymmetrySpec.vars.all (Tryz.prog.varReadable ·))=true:=by kernel_rfl
theorem EvalSymmetry_k20:(Tryz.f4.resultTypes.all (fun t=>Tryz.prog.readableRec t&&decide (t<Tryz.prog.types.size)))=true:=by kernel_rfl
theorem EvalSymmetry_k21:((Rows.evalSymmetryRow.ifacesOut==Tryz.f4.resultTypes.toList.any (Tryz.prog.ifacesRec ·)))=true:=by kernel_rfl
theorem EvalSymmetry_k22:((Rows.evalSymmetryRow.loopsOut==Tryz.f4.resultTypes.toList.any (Tryz.prog.loopsFrom ·)))=true:=by kernel_rfl
theorem EvalSymmetry_k23:((Rows.evalSymmetryRow.plainKeys==Tryz.prog.plainKeys))=true:=by kernel_rfl
theorem EvalSymmetry_k24:(Rows.evalSymmetryRow.shortTexts.isNone)=true:=by kernel_rfl
theorem EvalSymmetry_k27:((Rows.evalSymmetryRow.lifted==Tryz.prog.liftsFinal))=true:=by kernel_rfl
theorem EvalSymmetry_k28:((Tryz.prog.make==some Rows.evalSymmetryRow.make))=true:=by kernel_rfl
theorem EvalSymmetry_k29:((Rows.evalSymmetryRow.kinds==(if Rows.evalSymmetryRow.domain.isEmpty then[]else Tryz.f4.params.toList.map fun t=>match Tryz.prog.underlying t with|some (.int k)=>some k|_=>none)))=true:=by kernel_rfl
theorem EvalSymmetry_k30:((Rows.evalSymmetryRow.pinned==Rows.evalSymmetryRow.pinnedBy))=true:=by kernel_rfl
theorem EvalSymmetry_k31:((Rows.evalSymmetryRow.veiled==(Tryz.f4.params.toList++Rows.evalSymmetrySpec.plain.varTypes Tryz.prog++Tryz.f4.resultTypes.toList).any (Tryz.prog.veiledRec ·)))=true:=by kernel_rfl
theorem EvalSymmetry_k32:(Rows.evalSymmetryRow.veiledFits Tryz.prog Tryz.f4.params.toList (Tryz.f4.params.toList++Rows.evalSymmetrySpec.plain.varTypes Tryz.prog++Tryz.f4.resultTypes.toList))=true:=by kernel_rfl
set_option maxRecDepth 100000 in
theorem EvalSymmetry_facts:joinedFacts Tryz.prog 4 Tryz.f4 Rows.evalSymmetrySpec Rows.evalSymmetryRow=true:=by
 unfold joinedFacts;exact nN (nN (nN (nN (nN (nN (nN (nN (nN (nN (nN (nN (nN (nN (nN (nN (nN (nN (nN (nN (nN (nN (nN (nN (nN (nN (nN (nN (nN (nN (nN EvalSymmetry_k1 pf2) pf3) EvalSymmetry_k4) EvalSymmetry_k5) EvalSymmetry_k6) pf7) EvalSymmetry_k8) pf9) EvalSymmetry_k10) EvalSymmetry_k11) EvalSymmetry_k12) EvalSymmetry_k13) EvalSymmetry_k14) EvalSymmetry_k15) EvalSymmetry_k16) EvalSymmetry_k17) EvalSymmetry_k18) EvalSymmetry_k19) EvalSymmetry_k20) EvalSymmetry_k21) EvalSymmetry_k22) EvalSymmetry_k23) EvalSymmetry_k24) aKI) aKO) EvalSymmetry_k27) EvalSymmetry_k28) EvalSymmetry_k29) EvalSymmetry_k30) EvalSymmetry_k31) EvalSymmetry_k32
set_option maxRecDepth 100000 in
theorem EvalSymmetry_named:Tryz.prog.funcNamed Rows.evalSymmetryRow.func=some 4:=by kernel_rfl
set_option maxRecDepth 100000 in
theorem EvalSymmetry_inst:Tryz.f4.isInstance Tryz.prog Rows.evalSymmetryRow.origin Rows.evalSymmetryRow.targs:=of_decide_eq_true (by kernel_rfl)
set_option maxRecDepth 100000 in
theorem EvalSymmetry_wrap:Tryz.f4.isWrapper Tryz.prog Rows.evalSymmetryRow.wrapper Rows.evalSymmetryRow.mainSum:=by unfold Func.isWrapper;first|(rw[if_pos (by decide+kernel)];kernel_rfl)|(rw[if_neg (by decide+kernel)];exact⟨rfl,rfl⟩)
end Go.Proofs.YthgdaonechbgmaaGreat
