/-
  Closed facts of the program, each by the kernel. Conditions: none.
-/
import Derived.Test.YtiiaccpcoclklaaGreatRows
import Derived.JoinedOf
import Derived.KernelRfl
set_option linter.unusedSimpArgs false
set_option linter.unusedVariables false
namespace Go.Proofs.YtiiaccpcoclklaaGreat
open Go Go.Proofs
theorem jL {a b : Bool} (h : a = true) (k : b = true) : (a && b) = true := by rw [h, k]; rfl
theorem YB : (laidOutB Tryz.prog) = true := by kernel_rfl
theorem Yv : (mapsRowed Tryz.prog) = true := by kernel_rfl
theorem Yy : ((Tryz.prog.stops == [])) = true := by kernel_rfl
theorem Yr : ((Tryz.prog.stopKnobs == [])) = true := by kernel_rfl
theorem XO : (Tryz.prog.stopsHeard) = true := by kernel_rfl
theorem XU : (Tryz.prog.mayEnter) = true := by kernel_rfl
end Go.Proofs.YtiiaccpcoclklaaGreat
