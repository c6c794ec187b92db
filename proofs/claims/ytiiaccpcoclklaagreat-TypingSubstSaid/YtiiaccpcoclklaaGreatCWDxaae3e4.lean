/-
  More structures of the program (printed by gen.py). Conditions: none.
-/
import Derived.Test.YtiiaccpcoclklaaGreatCDix50535f
import Derived.Test.YtiiaccpcoclklaaGreatCTDx83fdfc
set_option linter.unusedSimpArgs false
set_option linter.unusedVariables false
namespace Go.Proofs.YtiiaccpcoclklaaGreat
namespace Abs
open Go Go.Proofs
def aP (x : S_api_Binding) : List AV := [.str x.name, .int .i64 x.term.op, .str x.term.name, .int .i64 x.term.n, .int .i64 x.term.ty.kind, .str x.term.ty.name, .slice (List.map aF x.term.ty.kids) .shared, .slice (List.map aO x.term.kids) .shared]
theorem bZ (g : Nat → Nat) (l : List S_api_Binding) : bE g (l.map aP) = l.map aP := zY (fun g x => by simp only [aP, bR, ren, dO, aQ, bf, bT, aD, aM, aK, aN]) g l
theorem renE_S_api_Binding (g : Nat → Nat) (x : S_api_Binding) : bR g (aP x) = aP x := by simp only [aP, bR, ren, dO, aQ, bf, bT, aD, aM, aK, aN]
theorem E9 (n : S_api_Binding) : dW 8 (aP n) = true := rfl
theorem alS : au Tryz.prog 32 = true := by kernel_rfl
theorem ahk : au Tryz.prog 86 = true := by kernel_rfl
theorem TH : au Tryz.prog 87 = true := by kernel_rfl
theorem akO : au Tryz.prog 142 = true := by kernel_rfl
theorem WQ : au Tryz.prog 162 = true := by kernel_rfl
theorem WT : au Tryz.prog 166 = true := by kernel_rfl
theorem akm : au Tryz.prog 167 = true := by kernel_rfl
theorem aky : au Tryz.prog 168 = true := by kernel_rfl
theorem adQ : au Tryz.prog 243 = true := by kernel_rfl
attribute [simp] bZ renE_S_api_Binding
end Abs
end Go.Proofs.YtiiaccpcoclklaaGreat
