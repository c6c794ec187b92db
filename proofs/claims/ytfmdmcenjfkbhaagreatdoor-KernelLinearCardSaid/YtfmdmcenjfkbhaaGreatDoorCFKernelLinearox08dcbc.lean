/-
  Closed facts of KernelLinear, each by the kernel. Conditions: none.
-/
import Derived.Test.YtfmdmcenjfkbhaaGreatDoorCFactsox3583ae
set_option linter.all false
namespace Go.Proofs.YtfmdmcenjfkbhaaGreatDoor
open Go Go.Proofs
theorem LP:(Rows.kernelLinearRow.wf (OpenSpec.ofChange Rows.kernelLinearSpec))=true:=by kernel_rfl
theorem LW:(Tryz.f3.params.all (Tryz.prog.readableRec ·))=true:=by kernel_rfl
theorem Kv:(namedTie Tryz.prog Rows.kernelLinearRow.named Rows.kernelLinearSpec.vars)=true:=by kernel_rfl
theorem J6:((Rows.kernelLinearRow.stops==[]))=true:=by kernel_rfl
theorem Ki:((Rows.kernelLinearRow.knobs==[]))=true:=by kernel_rfl
theorem Jp:((Rows.kernelLinearRow.inPlace==Tryz.prog.inPlace 3))=true:=by kernel_rfl
theorem Jc:((Rows.kernelLinearRow.unfollowed==Tryz.prog.unfollowed 3))=true:=by kernel_rfl
theorem Ju:((Rows.kernelLinearRow.recurses==Tryz.prog.recurses 3))=true:=by kernel_rfl
theorem Ja:((Rows.kernelLinearRow.named==Tryz.prog.varsNamed 3))=true:=by kernel_rfl
theorem IL:((Rows.kernelLinearRow.maps==(Tryz.f3.params.toList++Rows.kernelLinearSpec.plain.varTypes Tryz.prog).any (Tryz.prog.mapsRec ·)))=true:=by kernel_rfl
theorem JU:((Rows.kernelLinearRow.ifaces==(Tryz.f3.params.toList++Rows.kernelLinearSpec.plain.varTypes Tryz.prog).any (Tryz.prog.ifacesRec ·)))=true:=by kernel_rfl
theorem Je:((Rows.kernelLinearRow.mapsOut==Tryz.prog.mapsAmong Tryz.f3.resultTypes.toList))=true:=by kernel_rfl
theorem I9:((Rows.kernelLinearRow.loops==(Tryz.f3.params.toList++Rows.kernelLinearSpec.plain.varTypes Tryz.prog).any (Tryz.prog.loopsFrom ·)))=true:=by kernel_rfl
theorem JF:((Rows.kernelLinearRow.wideKeys==(Tryz.f3.params.toList++Rows.kernelLinearSpec.plain.varTypes Tryz.prog++Tryz.f3.resultTypes.toList).any (Tryz.prog.wideKeysFrom ·)))=true:=by kernel_rfl
theorem IU:(Rows.kernelLinearSpec.vars.all (Tryz.prog.varReadable ·))=true:=by kernel_rfl
theorem Jv:(Tryz.f3.resultTypes.all (fun t=>Tryz.prog.readableRec t&&decide (t<Tryz.prog.types.size)))=true:=by kernel_rfl
theorem JN:((Rows.kernelLinearRow.ifacesOut==Tryz.f3.resultTypes.toList.any (Tryz.prog.ifacesRec ·)))=true:=by kernel_rfl
theorem IW:((Rows.kernelLinearRow.loopsOut==Tryz.f3.resultTypes.toList.any (Tryz.prog.loopsFrom ·)))=true:=by kernel_rfl
theorem JM:((Rows.kernelLinearRow.plainKeys==Tryz.prog.plainKeys))=true:=by kernel_rfl
theorem JV:(Rows.kernelLinearRow.shortTexts.isNone)=true:=by kernel_rfl
theorem IJ:((Rows.kernelLinearRow.lifted==Tryz.prog.liftsFinal))=true:=by kernel_rfl
theorem JA:((Tryz.prog.make==some Rows.kernelLinearRow.make))=true:=by kernel_rfl
theorem Jg:((Rows.kernelLinearRow.kinds==(if Rows.kernelLinearRow.domain.isEmpty then[]else Tryz.f3.params.toList.map fun t=>match Tryz.prog.underlying t with|some (.int k)=>some k|_=>none)))=true:=by kernel_rfl
theorem Jt:((Rows.kernelLinearRow.pinned==Rows.kernelLinearRow.pinnedBy))=true:=by kernel_rfl
theorem Jk:((Rows.kernelLinearRow.veiled==(Tryz.f3.params.toList++Rows.kernelLinearSpec.plain.varTypes Tryz.prog++Tryz.f3.resultTypes.toList).any (Tryz.prog.veiledRec ·)))=true:=by kernel_rfl
theorem Js:(Rows.kernelLinearRow.veiledFits Tryz.prog Tryz.f3.params.toList (Tryz.f3.params.toList++Rows.kernelLinearSpec.plain.varTypes Tryz.prog++Tryz.f3.resultTypes.toList))=true:=by kernel_rfl
set_option maxRecDepth 100000 in
theorem Fp:joinedFacts Tryz.prog 3 Tryz.f3 Rows.kernelLinearSpec Rows.kernelLinearRow=true:=by
 unfold joinedFacts;exact iG (iG (iG (iG (iG (iG (iG (iG (iG (iG (iG (iG (iG (iG (iG (iG (iG (iG (iG (iG (iG (iG (iG (iG (iG (iG (iG (iG (iG (iG (iG LP pf2) pf3) LW) Kv) J6) pf7) Ki) pf9) Jp) Jc) Ju) Ja) IL) JU) Je) I9) JF) IU) Jv) JN) IW) JM) JV) aji) ail) IJ) JA) Jg) Jt) Jk) Js
set_option maxRecDepth 100000 in
theorem EP:Tryz.prog.funcNamed Rows.kernelLinearRow.func=some 3:=by kernel_rfl
set_option maxRecDepth 100000 in
theorem Hl:Tryz.f3.isInstance Tryz.prog Rows.kernelLinearRow.origin Rows.kernelLinearRow.targs:=of_decide_eq_true (by kernel_rfl)
set_option maxRecDepth 100000 in
theorem Hy:Tryz.f3.isWrapper Tryz.prog Rows.kernelLinearRow.wrapper Rows.kernelLinearRow.mainSum:=by unfold Func.isWrapper;first|(rw[if_pos (by decide+kernel)];kernel_rfl)|(rw[if_neg (by decide+kernel)];exact⟨rfl,rfl⟩)
end Go.Proofs.YtfmdmcenjfkbhaaGreatDoor
