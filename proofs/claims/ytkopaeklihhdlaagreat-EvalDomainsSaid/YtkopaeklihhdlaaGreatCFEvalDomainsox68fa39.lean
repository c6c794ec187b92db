/-
  Closed facts of EvalDomains, each by the kernel. Conditions: none.
-/
import Derived.Test.YtkopaeklihhdlaaGreatCFactsox460c41
set_option linter.all false
namespace Go.Proofs.YtkopaeklihhdlaaGreat
open Go Go.Proofs
theorem XT:(Rows.evalDomainsRow.wf (OpenSpec.ofChange Rows.evalDomainsSpec))=true:=by kernel_rfl
theorem Yn:(Tryz.f8.params.all (Tryz.prog.readableRec ·))=true:=by kernel_rfl
theorem Yq:(namedTie Tryz.prog Rows.evalDomainsRow.named Rows.evalDomainsSpec.vars)=true:=by kernel_rfl
theorem YW:((Rows.evalDomainsRow.stops==[]))=true:=by kernel_rfl
theorem Yi:((Rows.evalDomainsRow.knobs==[]))=true:=by kernel_rfl
theorem UZ:((Rows.evalDomainsRow.inPlace==Tryz.prog.inPlace 8))=true:=by kernel_rfl
theorem UU:((Rows.evalDomainsRow.unfollowed==Tryz.prog.unfollowed 8))=true:=by kernel_rfl
theorem WU:((Rows.evalDomainsRow.recurses==Tryz.prog.recurses 8))=true:=by kernel_rfl
theorem Vd:((Rows.evalDomainsRow.named==Tryz.prog.varsNamed 8))=true:=by kernel_rfl
theorem WE:((Rows.evalDomainsRow.maps==(Tryz.f8.params.toList++Rows.evalDomainsSpec.plain.varTypes Tryz.prog).any (Tryz.prog.mapsRec ·)))=true:=by kernel_rfl
theorem UG:((Rows.evalDomainsRow.ifaces==(Tryz.f8.params.toList++Rows.evalDomainsSpec.plain.varTypes Tryz.prog).any (Tryz.prog.ifacesRec ·)))=true:=by kernel_rfl
theorem Vv:((Rows.evalDomainsRow.mapsOut==Tryz.prog.mapsAmong Tryz.f8.resultTypes.toList))=true:=by kernel_rfl
theorem Vy:((Rows.evalDomainsRow.loops==(Tryz.f8.params.toList++Rows.evalDomainsSpec.plain.varTypes Tryz.prog).any (Tryz.prog.loopsFrom ·)))=true:=by kernel_rfl
theorem V7:((Rows.evalDomainsRow.wideKeys==(Tryz.f8.params.toList++Rows.evalDomainsSpec.plain.varTypes Tryz.prog++Tryz.f8.resultTypes.toList).any (Tryz.prog.wideKeysFrom ·)))=true:=by kernel_rfl
theorem Wq:(Rows.evalDomainsSpec.vars.all (Tryz.prog.varReadable ·))=true:=by kernel_rfl
theorem Uw:(Tryz.f8.resultTypes.all (fun t=>Tryz.prog.readableRec t&&decide (t<Tryz.prog.types.size)))=true:=by kernel_rfl
theorem Vo:((Rows.evalDomainsRow.ifacesOut==Tryz.f8.resultTypes.toList.any (Tryz.prog.ifacesRec ·)))=true:=by kernel_rfl
theorem WY:((Rows.evalDomainsRow.loopsOut==Tryz.f8.resultTypes.toList.any (Tryz.prog.loopsFrom ·)))=true:=by kernel_rfl
theorem U3:((Rows.evalDomainsRow.plainKeys==Tryz.prog.plainKeys))=true:=by kernel_rfl
theorem Uu:(Rows.evalDomainsRow.shortTexts.isNone)=true:=by kernel_rfl
theorem V9:((Rows.evalDomainsRow.lifted==Tryz.prog.liftsFinal))=true:=by kernel_rfl
theorem VI:((Tryz.prog.make==some Rows.evalDomainsRow.make))=true:=by kernel_rfl
theorem VD:((Rows.evalDomainsRow.kinds==(if Rows.evalDomainsRow.domain.isEmpty then[]else Tryz.f8.params.toList.map fun t=>match Tryz.prog.underlying t with|some (.int k)=>some k|_=>none)))=true:=by kernel_rfl
theorem Us:((Rows.evalDomainsRow.pinned==Rows.evalDomainsRow.pinnedBy))=true:=by kernel_rfl
theorem WK:((Rows.evalDomainsRow.veiled==(Tryz.f8.params.toList++Rows.evalDomainsSpec.plain.varTypes Tryz.prog++Tryz.f8.resultTypes.toList).any (Tryz.prog.veiledRec ·)))=true:=by kernel_rfl
theorem U1:(Rows.evalDomainsRow.veiledFits Tryz.prog Tryz.f8.params.toList (Tryz.f8.params.toList++Rows.evalDomainsSpec.plain.varTypes Tryz.prog++Tryz.f8.resultTypes.toList))=true:=by kernel_rfl
set_option maxRecDepth 100000 in
theorem Rq:joinedFacts Tryz.prog 8 Tryz.f8 Rows.evalDomainsSpec Rows.evalDomainsRow=true:=by
 unfold joinedFacts;exact ny (ny (ny (ny (ny (ny (ny (ny (ny (ny (ny (ny (ny (ny (ny (ny (ny (ny (ny (ny (ny (ny (ny (ny (ny (ny (ny (ny (ny (ny (ny XT pf2) pf3) Yn) Yq) YW) pf7) Yi) pf9) UZ) UU) WU) Vd) WE) UG) Vv) Vy) V7) Wq) Uw) Vo) WY) U3) Uu) aua) atu) V9) VI) VD) Us) WK) U1
set_option maxRecDepth 100000 in
theorem RI:Tryz.prog.funcNamed Rows.evalDomainsRow.func=some 8:=by kernel_rfl
set_option maxRecDepth 100000 in
theorem Tk:Tryz.f8.isInstance Tryz.prog Rows.evalDomainsRow.origin Rows.evalDomainsRow.targs:=of_decide_eq_true (by kernel_rfl)
set_option maxRecDepth 100000 in
theorem TL:Tryz.f8.isWrapper Tryz.prog Rows.evalDomainsRow.wrapper Rows.evalDomainsRow.mainSum:=by unfold Func.isWrapper;first|(rw[if_pos (by decide+kernel)];kernel_rfl)|(rw[if_neg (by decide+kernel)];exact⟨rfl,rfl⟩)
end Go.Proofs.YtkopaeklihhdlaaGreat
