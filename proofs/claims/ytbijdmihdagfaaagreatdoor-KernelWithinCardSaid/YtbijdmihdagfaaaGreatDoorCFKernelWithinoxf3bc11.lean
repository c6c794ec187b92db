/-
  Closed facts of KernelWithin, each by the kernel. Conditions: none.
-/
import Derived.Test.YtbijdmihdagfaaaGreatDoorCFactsoxbb23fa
set_option linter.all false
namespace Go.Proofs.YtbijdmihdagfaaaGreatDoor
open Go Go.Proofs
theorem Yv:(Rows.kernelWithinRow.wf (OpenSpec.ofChange Rows.kernelWithinSpec))=true:=by kernel_rfl
theorem Ww:(Tryz.f4.params.all (Tryz.prog.readableRec ·))=true:=by kernel_rfl
theorem YF:(namedTie Tryz.prog Rows.kernelWithinRow.named Rows.kernelWithinSpec.vars)=true:=by kernel_rfl
theorem XU:((Rows.kernelWithinRow.stops==[]))=true:=by kernel_rfl
theorem Xg:((Rows.kernelWithinRow.knobs==[]))=true:=by kernel_rfl
theorem Wd:((Rows.kernelWithinRow.inPlace==Tryz.prog.inPlace 4))=true:=by kernel_rfl
theorem VK:((Rows.kernelWithinRow.unfollowed==Tryz.prog.unfollowed 4))=true:=by kernel_rfl
theorem Vp:((Rows.kernelWithinRow.recurses==Tryz.prog.recurses 4))=true:=by kernel_rfl
theorem UK:((Rows.kernelWithinRow.named==Tryz.prog.varsNamed 4))=true:=by kernel_rfl
theorem Va:((Rows.kernelWithinRow.maps==(Tryz.f4.params.toList++Rows.kernelWithinSpec.plain.varTypes Tryz.prog).any (Tryz.prog.mapsRec ·)))=true:=by kernel_rfl
theorem VA:((Rows.kernelWithinRow.ifaces==(Tryz.f4.params.toList++Rows.kernelWithinSpec.plain.varTypes Tryz.prog).any (Tryz.prog.ifacesRec ·)))=true:=by kernel_rfl
theorem U8:((Rows.kernelWithinRow.mapsOut==Tryz.prog.mapsAmong Tryz.f4.resultTypes.toList))=true:=by kernel_rfl
theorem V6:((Rows.kernelWithinRow.loops==(Tryz.f4.params.toList++Rows.kernelWithinSpec.plain.varTypes Tryz.prog).any (Tryz.prog.loopsFrom ·)))=true:=by kernel_rfl
theorem VY:((Rows.kernelWithinRow.wideKeys==(Tryz.f4.params.toList++Rows.kernelWithinSpec.plain.varTypes Tryz.prog++Tryz.f4.resultTypes.toList).any (Tryz.prog.wideKeysFrom ·)))=true:=by kernel_rfl
theorem UD:(Rows.kernelWithinSpec.vars.all (Tryz.prog.varReadable ·))=true:=by kernel_rfl
theorem V9:(Tryz.f4.resultTypes.all (fun t=>Tryz.prog.readableRec t&&decide (t<Tryz.prog.types.size)))=true:=by kernel_rfl
theorem UY:((Rows.kernelWithinRow.ifacesOut==Tryz.f4.resultTypes.toList.any (Tryz.prog.ifacesRec ·)))=true:=by kernel_rfl
theorem Vz:((Rows.kernelWithinRow.loopsOut==Tryz.f4.resultTypes.toList.any (Tryz.prog.loopsFrom ·)))=true:=by kernel_rfl
theorem Vt:((Rows.kernelWithinRow.plainKeys==Tryz.prog.plainKeys))=true:=by kernel_rfl
theorem UC:(Rows.kernelWithinRow.shortTexts.isNone)=true:=by kernel_rfl
theorem Vb:((Rows.kernelWithinRow.lifted==Tryz.prog.liftsFinal))=true:=by kernel_rfl
theorem V4:((Tryz.prog.make==some Rows.kernelWithinRow.make))=true:=by kernel_rfl
theorem VJ:((Rows.kernelWithinRow.kinds==(if Rows.kernelWithinRow.domain.isEmpty then[]else Tryz.f4.params.toList.map fun t=>match Tryz.prog.underlying t with|some (.int k)=>some k|_=>none)))=true:=by kernel_rfl
theorem VE:((Rows.kernelWithinRow.pinned==Rows.kernelWithinRow.pinnedBy))=true:=by kernel_rfl
theorem V5:((Rows.kernelWithinRow.veiled==(Tryz.f4.params.toList++Rows.kernelWithinSpec.plain.varTypes Tryz.prog++Tryz.f4.resultTypes.toList).any (Tryz.prog.veiledRec ·)))=true:=by kernel_rfl
theorem UO:(Rows.kernelWithinRow.veiledFits Tryz.prog Tryz.f4.params.toList (Tryz.f4.params.toList++Rows.kernelWithinSpec.plain.varTypes Tryz.prog++Tryz.f4.resultTypes.toList))=true:=by kernel_rfl
set_option maxRecDepth 100000 in
theorem QL:joinedFacts Tryz.prog 4 Tryz.f4 Rows.kernelWithinSpec Rows.kernelWithinRow=true:=by
 unfold joinedFacts;exact bX (bX (bX (bX (bX (bX (bX (bX (bX (bX (bX (bX (bX (bX (bX (bX (bX (bX (bX (bX (bX (bX (bX (bX (bX (bX (bX (bX (bX (bX (bX Yv pf2) pf3) Ww) YF) XU) pf7) Xg) pf9) Wd) VK) Vp) UK) Va) VA) U8) V6) VY) UD) V9) UY) Vz) Vt) UC) apo) aol) Vb) V4) VJ) VE) V5) UO
set_option maxRecDepth 100000 in
theorem Qy:Tryz.prog.funcNamed Rows.kernelWithinRow.func=some 4:=by kernel_rfl
set_option maxRecDepth 100000 in
theorem SV:Tryz.f4.isInstance Tryz.prog Rows.kernelWithinRow.origin Rows.kernelWithinRow.targs:=of_decide_eq_true (by kernel_rfl)
set_option maxRecDepth 100000 in
theorem Tt:Tryz.f4.isWrapper Tryz.prog Rows.kernelWithinRow.wrapper Rows.kernelWithinRow.mainSum:=by unfold Func.isWrapper;first|(rw[if_pos (by decide+kernel)];kernel_rfl)|(rw[if_neg (by decide+kernel)];exact⟨rfl,rfl⟩)
end Go.Proofs.YtbijdmihdagfaaaGreatDoor
