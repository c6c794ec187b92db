/-
  Closed facts of TypingReplaces, each by the kernel. Conditions: none.
-/
import Derived.Test.YtiiaccpcoclklaaGreatCFactsx289920
set_option linter.unusedSimpArgs false
set_option linter.unusedVariables false
namespace Go.Proofs.YtiiaccpcoclklaaGreat
open Go Go.Proofs
theorem Qn : (Rows.typingReplacesRow.wf (OpenSpec.ofChange Rows.typingReplacesSpec)) = true := by kernel_rfl
theorem Ql : (Tryz.f5.params.all (Tryz.prog.readableRec ·)) = true := by kernel_rfl
theorem QX : (namedTie Tryz.prog Rows.typingReplacesRow.named Rows.typingReplacesSpec.vars) = true := by kernel_rfl
theorem PY : ((Rows.typingReplacesRow.stops == [])) = true := by kernel_rfl
theorem Qq : ((Rows.typingReplacesRow.knobs == [])) = true := by kernel_rfl
theorem NW : ((Rows.typingReplacesRow.inPlace == Tryz.prog.inPlace 5)) = true := by kernel_rfl
theorem Ng : ((Rows.typingReplacesRow.unfollowed == Tryz.prog.unfollowed 5)) = true := by kernel_rfl
theorem Mi : ((Rows.typingReplacesRow.recurses == Tryz.prog.recurses 5)) = true := by kernel_rfl
theorem MO : ((Rows.typingReplacesRow.named == Tryz.prog.varsNamed 5)) = true := by kernel_rfl
theorem MJ : ((Rows.typingReplacesRow.maps == (Tryz.f5.params.toList ++ Rows.typingReplacesSpec.plain.varTypes Tryz.prog).any (Tryz.prog.mapsRec ·))) = true := by kernel_rfl
theorem Oi : ((Rows.typingReplacesRow.ifaces == (Tryz.f5.params.toList ++ Rows.typingReplacesSpec.plain.varTypes Tryz.prog).any (Tryz.prog.ifacesRec ·))) = true := by kernel_rfl
theorem Oh : ((Rows.typingReplacesRow.mapsOut == Tryz.prog.mapsAmong Tryz.f5.resultTypes.toList)) = true := by kernel_rfl
theorem OA : ((Rows.typingReplacesRow.loops == (Tryz.f5.params.toList ++ Rows.typingReplacesSpec.plain.varTypes Tryz.prog).any (Tryz.prog.loopsFrom ·))) = true := by kernel_rfl
theorem Mj : ((Rows.typingReplacesRow.wideKeys == (Tryz.f5.params.toList ++ Rows.typingReplacesSpec.plain.varTypes Tryz.prog ++ Tryz.f5.resultTypes.toList).any (Tryz.prog.wideKeysFrom ·))) = true := by kernel_rfl
theorem M8 : (Rows.typingReplacesSpec.vars.all (Tryz.prog.varReadable ·)) = true := by kernel_rfl
theorem MH : (Tryz.f5.resultTypes.all (fun t => Tryz.prog.readableRec t && decide (t < Tryz.prog.types.size))) = true := by kernel_rfl
theorem Ow : ((Rows.typingReplacesRow.ifacesOut == Tryz.f5.resultTypes.toList.any (Tryz.prog.ifacesRec ·))) = true := by kernel_rfl
theorem ML : ((Rows.typingReplacesRow.loopsOut == Tryz.f5.resultTypes.toList.any (Tryz.prog.loopsFrom ·))) = true := by kernel_rfl
theorem Nk : ((Rows.typingReplacesRow.plainKeys == Tryz.prog.plainKeys)) = true := by kernel_rfl
theorem Nn : (Rows.typingReplacesRow.shortTexts.isNone) = true := by kernel_rfl
theorem MB : ((Rows.typingReplacesRow.lifted == Tryz.prog.liftsFinal)) = true := by kernel_rfl
theorem NU : ((Tryz.prog.make == some Rows.typingReplacesRow.make)) = true := by kernel_rfl
theorem Ov : ((Rows.typingReplacesRow.kinds == (if Rows.typingReplacesRow.domain.isEmpty then [] else Tryz.f5.params.toList.map fun t => match Tryz.prog.underlying t with | some (.int k) => some k | _ => none))) = true := by kernel_rfl
theorem MU : ((Rows.typingReplacesRow.pinned == Rows.typingReplacesRow.pinnedBy)) = true := by kernel_rfl
theorem Oe : ((Rows.typingReplacesRow.veiled == (Tryz.f5.params.toList ++ Rows.typingReplacesSpec.plain.varTypes Tryz.prog ++ Tryz.f5.resultTypes.toList).any (Tryz.prog.veiledRec ·))) = true := by kernel_rfl
theorem Mt : (Rows.typingReplacesRow.veiledFits Tryz.prog Tryz.f5.params.toList (Tryz.f5.params.toList ++ Rows.typingReplacesSpec.plain.varTypes Tryz.prog ++ Tryz.f5.resultTypes.toList)) = true := by kernel_rfl
set_option maxRecDepth 100000 in
theorem KV : joinedFacts Tryz.prog 5 Tryz.f5 Rows.typingReplacesSpec Rows.typingReplacesRow = true := by
 unfold joinedFacts
 exact aJ (aJ (aJ (aJ (aJ (aJ (aJ (aJ (aJ (aJ (aJ (aJ (aJ (aJ (aJ (aJ (aJ (aJ (aJ (aJ (aJ (aJ (aJ (aJ (aJ (aJ (aJ (aJ (aJ (aJ (aJ Qn MG) NI) Ql) QX) PY) Mq) Qq) Oz) NW) Ng) Mi) MO) MJ) Oi) Oh) OA) Mj) M8) MH) Ow) ML) Nk) Nn) E8) Fw) MB) NU) Ov) MU) Oe) Mt
set_option maxRecDepth 100000 in
theorem KE : Tryz.prog.funcNamed Rows.typingReplacesRow.func = some 5 := by kernel_rfl
set_option maxRecDepth 100000 in
theorem LK : Tryz.f5.isInstance Tryz.prog Rows.typingReplacesRow.origin Rows.typingReplacesRow.targs := of_decide_eq_true (by kernel_rfl)
set_option maxRecDepth 100000 in
theorem Lv : Tryz.f5.isWrapper Tryz.prog Rows.typingReplacesRow.wrapper Rows.typingReplacesRow.mainSum := by unfold Func.isWrapper; first | (rw [if_pos (by decide +kernel)]; kernel_rfl) | (rw [if_neg (by decide +kernel)]; exact ⟨rfl, rfl⟩)
end Go.Proofs.YtiiaccpcoclklaaGreat
