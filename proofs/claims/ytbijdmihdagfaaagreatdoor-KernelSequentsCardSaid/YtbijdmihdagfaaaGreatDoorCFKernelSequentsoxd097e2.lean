/-
  Closed facts of KernelSequents, each by the kernel. Conditions: none.
-/
import Derived.Test.YtbijdmihdagfaaaGreatDoorCFactsoxbb23fa
set_option linter.all false
namespace Go.Proofs.YtbijdmihdagfaaaGreatDoor
open Go Go.Proofs
theorem SL:(Rows.kernelSequentsRow.wf (OpenSpec.ofChange Rows.kernelSequentsSpec))=true:=by kernel_rfl
theorem SS:(Tryz.f3.params.all (Tryz.prog.readableRec ·))=true:=by kernel_rfl
theorem TA:(namedTie Tryz.prog Rows.kernelSequentsRow.named Rows.kernelSequentsSpec.vars)=true:=by kernel_rfl
theorem TD:((Rows.kernelSequentsRow.stops==[]))=true:=by kernel_rfl
theorem SY:((Rows.kernelSequentsRow.knobs==[]))=true:=by kernel_rfl
theorem RX:((Rows.kernelSequentsRow.inPlace==Tryz.prog.inPlace 3))=true:=by kernel_rfl
theorem RQ:((Rows.kernelSequentsRow.unfollowed==Tryz.prog.unfollowed 3))=true:=by kernel_rfl
theorem Ql:((Rows.kernelSequentsRow.recurses==Tryz.prog.recurses 3))=true:=by kernel_rfl
theorem RI:((Rows.kernelSequentsRow.named==Tryz.prog.varsNamed 3))=true:=by kernel_rfl
theorem Qb:((Rows.kernelSequentsRow.maps==(Tryz.f3.params.toList++Rows.kernelSequentsSpec.plain.varTypes Tryz.prog).any (Tryz.prog.mapsRec ·)))=true:=by kernel_rfl
theorem Px:((Rows.kernelSequentsRow.ifaces==(Tryz.f3.params.toList++Rows.kernelSequentsSpec.plain.varTypes Tryz.prog).any (Tryz.prog.ifacesRec ·)))=true:=by kernel_rfl
theorem RF:((Rows.kernelSequentsRow.mapsOut==Tryz.prog.mapsAmong Tryz.f3.resultTypes.toList))=true:=by kernel_rfl
theorem Qq:((Rows.kernelSequentsRow.loops==(Tryz.f3.params.toList++Rows.kernelSequentsSpec.plain.varTypes Tryz.prog).any (Tryz.prog.loopsFrom ·)))=true:=by kernel_rfl
theorem Qr:((Rows.kernelSequentsRow.wideKeys==(Tryz.f3.params.toList++Rows.kernelSequentsSpec.plain.varTypes Tryz.prog++Tryz.f3.resultTypes.toList).any (Tryz.prog.wideKeysFrom ·)))=true:=by kernel_rfl
theorem PL:(Rows.kernelSequentsSpec.vars.all (Tryz.prog.varReadable ·))=true:=by kernel_rfl
theorem Qk:(Tryz.f3.resultTypes.all (fun t=>Tryz.prog.readableRec t&&decide (t<Tryz.prog.types.size)))=true:=by kernel_rfl
theorem Q8:((Rows.kernelSequentsRow.ifacesOut==Tryz.f3.resultTypes.toList.any (Tryz.prog.ifacesRec ·)))=true:=by kernel_rfl
theorem PK:((Rows.kernelSequentsRow.loopsOut==Tryz.f3.resultTypes.toList.any (Tryz.prog.loopsFrom ·)))=true:=by kernel_rfl
theorem Qc:((Rows.kernelSequentsRow.plainKeys==Tryz.prog.plainKeys))=true:=by kernel_rfl
theorem Ri:(Rows.kernelSequentsRow.shortTexts.isNone)=true:=by kernel_rfl
theorem PI:((Rows.kernelSequentsRow.lifted==Tryz.prog.liftsFinal))=true:=by kernel_rfl
theorem P7:((Tryz.prog.make==some Rows.kernelSequentsRow.make))=true:=by kernel_rfl
theorem Qn:((Rows.kernelSequentsRow.kinds==(if Rows.kernelSequentsRow.domain.isEmpty then[]else Tryz.f3.params.toList.map fun t=>match Tryz.prog.underlying t with|some (.int k)=>some k|_=>none)))=true:=by kernel_rfl
theorem RG:((Rows.kernelSequentsRow.pinned==Rows.kernelSequentsRow.pinnedBy))=true:=by kernel_rfl
theorem Qe:((Rows.kernelSequentsRow.veiled==(Tryz.f3.params.toList++Rows.kernelSequentsSpec.plain.varTypes Tryz.prog++Tryz.f3.resultTypes.toList).any (Tryz.prog.veiledRec ·)))=true:=by kernel_rfl
theorem Ro:(Rows.kernelSequentsRow.veiledFits Tryz.prog Tryz.f3.params.toList (Tryz.f3.params.toList++Rows.kernelSequentsSpec.plain.varTypes Tryz.prog++Tryz.f3.resultTypes.toList))=true:=by kernel_rfl
set_option maxRecDepth 100000 in
theorem Na:joinedFacts Tryz.prog 3 Tryz.f3 Rows.kernelSequentsSpec Rows.kernelSequentsRow=true:=by
 unfold joinedFacts;exact bX (bX (bX (bX (bX (bX (bX (bX (bX (bX (bX (bX (bX (bX (bX (bX (bX (bX (bX (bX (bX (bX (bX (bX (bX (bX (bX (bX (bX (bX (bX SL pf2) pf3) SS) TA) TD) pf7) SY) pf9) RX) RQ) Ql) RI) Qb) Px) RF) Qq) Qr) PL) Qk) Q8) PK) Qc) Ri) apo) aol) PI) P7) Qn) RG) Qe) Ro
set_option maxRecDepth 100000 in
theorem M6:Tryz.prog.funcNamed Rows.kernelSequentsRow.func=some 3:=by kernel_rfl
set_option maxRecDepth 100000 in
theorem Pm:Tryz.f3.isInstance Tryz.prog Rows.kernelSequentsRow.origin Rows.kernelSequentsRow.targs:=of_decide_eq_true (by kernel_rfl)
set_option maxRecDepth 100000 in
theorem OV:Tryz.f3.isWrapper Tryz.prog Rows.kernelSequentsRow.wrapper Rows.kernelSequentsRow.mainSum:=by unfold Func.isWrapper;first|(rw[if_pos (by decide+kernel)];kernel_rfl)|(rw[if_neg (by decide+kernel)];exact⟨rfl,rfl⟩)
end Go.Proofs.YtbijdmihdagfaaaGreatDoor
