/-
  Closed facts of EvalEvaluates, each by the kernel. Conditions: none.
-/
import Derived.Test.YtneeginmfjageaaGreatAl
import Derived.Test.YtneeginmfjageaaGreatCFactsoxbc4441
set_option linter.all false
namespace Go.Proofs.YtneeginmfjageaaGreat
open Go Go.Proofs
def EvalEvaluates_k1:(Rows.evalEvaluatesRow.wf (OpenSpec.ofChange Rows.evalEvaluatesSpec))=true:=by kernel_rfl
def EvalEvaluates_k4:(Tryz.f3.params.all (Tryz.prog.readableRec ·))=true:=by kernel_rfl
def EvalEvaluates_k5:(namedTie Tryz.prog Rows.evalEvaluatesRow.named Rows.evalEvaluatesSpec.vars)=true:=by kernel_rfl
def EvalEvaluates_k6:((Rows.evalEvaluatesRow.stops==[]))=true:=by kernel_rfl
def EvalEvaluates_k8:((Rows.evalEvaluatesRow.knobs==[]))=true:=by kernel_rfl
def EvalEvaluates_k10:((Rows.evalEvaluatesRow.inPlace==Tryz.prog.inPlace 3))=true:=by kernel_rfl
def EvalEvaluates_k11:((Rows.evalEvaluatesRow.unfollowed==Tryz.prog.unfollowed 3))=true:=by kernel_rfl
def EvalEvaluates_k12:((Rows.evalEvaluatesRow.recurses==Tryz.prog.recurses 3))=true:=by kernel_rfl
def EvalEvaluates_k13:((Rows.evalEvaluatesRow.named==Tryz.prog.varsNamed 3))=true:=by kernel_rfl
def EvalEvaluates_k14:((Rows.evalEvaluatesRow.maps==(Tryz.f3.params.toList++Rows.evalEvaluatesSpec.plain.varTypes Tryz.prog).any (Tryz.prog.mapsRec ·)))=true:=by kernel_rfl
def EvalEvaluates_k15:((Rows.evalEvaluatesRow.ifaces==(Tryz.f3.params.toList++Rows.evalEvaluatesSpec.plain.varTypes Tryz.prog).any (Tryz.prog.ifacesRec ·)))=true:=by kernel_rfl
def EvalEvaluates_k16:((Rows.evalEvaluatesRow.mapsOut==Tryz.prog.mapsAmong Tryz.f3.resultTypes.toList))=true:=by kernel_rfl
def EvalEvaluates_k17:((Rows.evalEvaluatesRow.loops==(Tryz.f3.params.toList++Rows.evalEvaluatesSpec.plain.varTypes Tryz.prog).any (Tryz.prog.loopsFrom ·)))=true:=by kernel_rfl
def EvalEvaluates_k18:((Rows.evalEvaluatesRow.wideKeys==(Tryz.f3.params.toList++Rows.evalEvaluatesSpec.plain.varTypes Tryz.prog++Tryz.f3.resultTypes.toList).any (Tryz.prog.wideKeysFrom ·)))=true:=by kernel_rfl
def EvalEvaluates_k19:(Rows.evalEvaluatesSpec.vars.all (Tryz.prog.varReadable ·))=true:=by kernel_rfl
def EvalEvaluates_k20:(Tryz.f3.resultTypes.all (λt=>Tryz.prog.readableRec t&&decide (t<Tryz.prog.types.size)))=true:=by kernel_rfl
def EvalEvaluates_k21:((Rows.evalEvaluatesRow.ifacesOut==Tryz.f3.resultTypes.toList.any (Tryz.prog.ifacesRec ·)))=true:=by kernel_rfl
def EvalEvaluates_k22:((Rows.evalEvaluatesRow.loopsOut==Tryz.f3.resultTypes.toList.any (Tryz.prog.loopsFrom ·)))=true:=by kernel_rfl
def EvalEvaluates_k23:((Rows.evalEvaluatesRow.plainKeys==Tryz.prog.plainKeys))=true:=by kernel_rfl
def EvalEvaluates_k24:(Rows.evalEvaluatesRow.shortTexts.isNone)=true:=by kernel_rfl
def EvalEvaluates_k27:((Rows.evalEvaluatesRow.lifted==Tryz.prog.liftsFinal))=true:=by kernel_rfl
def EvalEvaluates_k28:((Tryz.prog.make==some Rows.evalEvaluatesRow.make))=true:=by kernel_rfl
def EvalEvaluates_k29:((Rows.evalEvaluatesRow.kinds==(if Rows.evalEvaluatesRow.domain.isEmpty then[]else Tryz.f3.params.toList.map λt=>match Tryz.prog.underlying t with|some (.int k)=>some k|_=>none)))=true:=by kernel_rfl
def EvalEvaluates_k30:((Rows.evalEvaluatesRow.pinned==Rows.evalEvaluatesRow.pinnedBy))=true:=by kernel_rfl
def EvalEvaluates_k31:((Rows.evalEvaluatesRow.veiled==(Tryz.f3.params.toList++Rows.evalEvaluatesSpec.plain.varTypes Tryz.prog++Tryz.f3.resultTypes.toList).any (Tryz.prog.veiledRec ·)))=true:=by kernel_rfl
def EvalEvaluates_k32:(Rows.evalEvaluatesRow.veiledFits Tryz.prog Tryz.f3.params.toList (Tryz.f3.params.toList++Rows.evalEvaluatesSpec.plain.varTypes Tryz.prog++Tryz.f3.resultTypes.toList))=true:=by kernel_rfl
set_option maxRecDepth 100000 in
def EvalEvaluates_facts:joinedFacts Tryz.prog 3 Tryz.f3 Rows.evalEvaluatesSpec Rows.evalEvaluatesRow=true:=by unfold joinedFacts;exact nN (nN (nN (nN (nN (nN (nN (nN (nN (nN (nN (nN (nN (nN (nN (nN (nN (nN (nN (nN (nN (nN (nN (nN (nN (nN (nN (nN (nN (nN (nN EvalEvaluates_k1 pf2) pf3) EvalEvaluates_k4) EvalEvaluates_k5) EvalEvaluates_k6) pf7) EvalEvaluates_k8) pf9) EvalEvaluates_k10) EvalEvaluates_k11) EvalEvaluates_k12) EvalEvaluates_k13) EvalEvaluates_k14) EvalEvaluates_k15) EvalEvaluates_k16) EvalEvaluates_k17) EvalEvaluates_k18) EvalEvaluates_k19) EvalEvaluates_k20) EvalEvaluates_k21) EvalEvaluates_k22) EvalEvaluates_k23) EvalEvaluates_k24) aKI) aKO) EvalEvaluates_k27) EvalEvaluates_k28) EvalEvaluates_k29) EvalEvaluates_k30) EvalEvaluates_k31) EvalEvaluates_k32
set_option maxRecDepth 100000 in
def EvalEvaluates_named:Tryz.prog.funcNamed Rows.evalEvaluatesRow.func=some 3:=by kernel_rfl
set_option maxRecDepth 100000 in
def EvalEvaluates_inst:Tryz.f3.isInstance Tryz.prog Rows.evalEvaluatesRow.origin Rows.evalEvaluatesRow.targs:=of_decide_eq_true Abs.Cs
set_option maxRecDepth 100000 in
def EvalEvaluates_wrap:Tryz.f3.isWrapper Tryz.prog Rows.evalEvaluatesRow.wrapper Rows.evalEvaluatesRow.mainSum:=by unfold Func.isWrapper;first|(rw[if_pos (by decide+kernel)];kernel_rfl)|(rw[if_neg (by decide+kernel)];exact⟨rfl,rfl⟩)
end Go.Proofs.YtneeginmfjageaaGreat
