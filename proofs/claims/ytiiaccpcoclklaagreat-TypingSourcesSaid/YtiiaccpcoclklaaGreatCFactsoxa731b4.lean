/-
  Closed facts of the program, each by the kernel. Conditions: none.
-/
import Derived.Test.YtiiaccpcoclklaaGreatRows
import Derived.JoinedOf
import Derived.KernelRfl
set_option linter.unusedSimpArgs false
set_option linter.unusedVariables false
namespace Go.Proofs.YtiiaccpcoclklaaGreat
open Go Go.Proofs
theorem aJ {a b : Bool} (h : a = true) (k : b = true) : (a && b) = true := by rw [h, k]; rfl
theorem Pk : (laidOutB Tryz.prog) = true := by kernel_rfl
theorem Ov : (mapsRowed Tryz.prog) = true := by kernel_rfl
theorem OB : ((Tryz.prog.stops == [])) = true := by kernel_rfl
theorem Po : ((Tryz.prog.stopKnobs == [])) = true := by kernel_rfl
theorem Ib : (Tryz.prog.stopsHeard) = true := by kernel_rfl
theorem Hy : (Tryz.prog.mayEnter) = true := by kernel_rfl
end Go.Proofs.YtiiaccpcoclklaaGreat
