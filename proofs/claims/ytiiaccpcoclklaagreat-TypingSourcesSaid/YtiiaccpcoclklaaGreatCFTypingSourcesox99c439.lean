/-
  Closed facts of TypingSources, each by the kernel. Conditions: none.
-/
import Derived.Test.YtiiaccpcoclklaaGreatCFactsoxa731b4
set_option linter.unusedSimpArgs false
set_option linter.unusedVariables false
namespace Go.Proofs.YtiiaccpcoclklaaGreat
open Go Go.Proofs
theorem Zp : (Rows.typingSourcesRow.wf (OpenSpec.ofChange Rows.typingSourcesSpec)) = true := by kernel_rfl
theorem YZ : (Tryz.f6.params.all (Tryz.prog.readableRec ·)) = true := by kernel_rfl
theorem Zb : (namedTie Tryz.prog Rows.typingSourcesRow.named Rows.typingSourcesSpec.vars) = true := by kernel_rfl
theorem Y3 : ((Rows.typingSourcesRow.stops == [])) = true := by kernel_rfl
theorem Ze : ((Rows.typingSourcesRow.knobs == [])) = true := by kernel_rfl
theorem WK : ((Rows.typingSourcesRow.inPlace == Tryz.prog.inPlace 6)) = true := by kernel_rfl
theorem Xz : ((Rows.typingSourcesRow.unfollowed == Tryz.prog.unfollowed 6)) = true := by kernel_rfl
theorem WQ : ((Rows.typingSourcesRow.recurses == Tryz.prog.recurses 6)) = true := by kernel_rfl
theorem Wq : ((Rows.typingSourcesRow.named == Tryz.prog.varsNamed 6)) = true := by kernel_rfl
theorem Wm : ((Rows.typingSourcesRow.maps == (Tryz.f6.params.toList ++ Rows.typingSourcesSpec.plain.varTypes Tryz.prog).any (Tryz.prog.mapsRec ·))) = true := by kernel_rfl
theorem Xo : ((Rows.typingSourcesRow.ifaces == (Tryz.f6.params.toList ++ Rows.typingSourcesSpec.plain.varTypes Tryz.prog).any (Tryz.prog.ifacesRec ·))) = true := by kernel_rfl
theorem Ww : ((Rows.typingSourcesRow.mapsOut == Tryz.prog.mapsAmong Tryz.f6.resultTypes.toList)) = true := by kernel_rfl
theorem XM : ((Rows.typingSourcesRow.loops == (Tryz.f6.params.toList ++ Rows.typingSourcesSpec.plain.varTypes Tryz.prog).any (Tryz.prog.loopsFrom ·))) = true := by kernel_rfl
theorem XT : ((Rows.typingSourcesRow.wideKeys == (Tryz.f6.params.toList ++ Rows.typingSourcesSpec.plain.varTypes Tryz.prog ++ Tryz.f6.resultTypes.toList).any (Tryz.prog.wideKeysFrom ·))) = true := by kernel_rfl
theorem WR : (Rows.typingSourcesSpec.vars.all (Tryz.prog.varReadable ·)) = true := by kernel_rfl
theorem VU : (Tryz.f6.resultTypes.all (fun t => Tryz.prog.readableRec t && decide (t < Tryz.prog.types.size))) = true := by kernel_rfl
theorem Xp : ((Rows.typingSourcesRow.ifacesOut == Tryz.f6.resultTypes.toList.any (Tryz.prog.ifacesRec ·))) = true := by kernel_rfl
theorem VZ : ((Rows.typingSourcesRow.loopsOut == Tryz.f6.resultTypes.toList.any (Tryz.prog.loopsFrom ·))) = true := by kernel_rfl
theorem XH : ((Rows.typingSourcesRow.plainKeys == Tryz.prog.plainKeys)) = true := by kernel_rfl
theorem WX : (Rows.typingSourcesRow.shortTexts.isNone) = true := by kernel_rfl
theorem WM : ((Rows.typingSourcesRow.lifted == Tryz.prog.liftsFinal)) = true := by kernel_rfl
theorem WH : ((Tryz.prog.make == some Rows.typingSourcesRow.make)) = true := by kernel_rfl
theorem Wv : ((Rows.typingSourcesRow.kinds == (if Rows.typingSourcesRow.domain.isEmpty then [] else Tryz.f6.params.toList.map fun t => match Tryz.prog.underlying t with | some (.int k) => some k | _ => none))) = true := by kernel_rfl
theorem Xl : ((Rows.typingSourcesRow.pinned == Rows.typingSourcesRow.pinnedBy)) = true := by kernel_rfl
theorem Xu : ((Rows.typingSourcesRow.veiled == (Tryz.f6.params.toList ++ Rows.typingSourcesSpec.plain.varTypes Tryz.prog ++ Tryz.f6.resultTypes.toList).any (Tryz.prog.veiledRec ·))) = true := by kernel_rfl
theorem WJ : (Rows.typingSourcesRow.veiledFits Tryz.prog Tryz.f6.params.toList (Tryz.f6.params.toList ++ Rows.typingSourcesSpec.plain.varTypes Tryz.prog ++ Tryz.f6.resultTypes.toList)) = true := by kernel_rfl
set_option maxRecDepth 100000 in
theorem R5 : joinedFacts Tryz.prog 6 Tryz.f6 Rows.typingSourcesSpec Rows.typingSourcesRow = true := by
 unfold joinedFacts
 exact aJ (aJ (aJ (aJ (aJ (aJ (aJ (aJ (aJ (aJ (aJ (aJ (aJ (aJ (aJ (aJ (aJ (aJ (aJ (aJ (aJ (aJ (aJ (aJ (aJ (aJ (aJ (aJ (aJ (aJ (aJ Zp Pk) Ov) YZ) Zb) Y3) OB) Ze) Po) WK) Xz) WQ) Wq) Wm) Xo) Ww) XM) XT) WR) VU) Xp) VZ) XH) WX) Ib) Hy) WM) WH) Wv) Xl) Xu) WJ
set_option maxRecDepth 100000 in
theorem Rx : Tryz.prog.funcNamed Rows.typingSourcesRow.func = some 6 := by kernel_rfl
set_option maxRecDepth 100000 in
theorem Uf : Tryz.f6.isInstance Tryz.prog Rows.typingSourcesRow.origin Rows.typingSourcesRow.targs := of_decide_eq_true (by kernel_rfl)
set_option maxRecDepth 100000 in
theorem Tv : Tryz.f6.isWrapper Tryz.prog Rows.typingSourcesRow.wrapper Rows.typingSourcesRow.mainSum := by unfold Func.isWrapper; first | (rw [if_pos (by decide +kernel)]; kernel_rfl) | (rw [if_neg (by decide +kernel)]; exact ⟨rfl, rfl⟩)
end Go.Proofs.YtiiaccpcoclklaaGreat
