/-
  Closed facts of the program, each by the kernel. Conditions: none.
-/
import Derived.Test.YtiiaccpcoclklaaGreatRows
import Derived.JoinedOf
import Derived.KernelRfl
set_option linter.unusedSimpArgs false
set_option linter.unusedVariables false
namespace Go.Proofs.YtiiaccpcoclklaaGreat
open Go Go.Proofs
theorem aM {a b : Bool} (h : a = true) (k : b = true) : (a && b) = true := by rw [h, k]; rfl
theorem NK : (laidOutB Tryz.prog) = true := by kernel_rfl
theorem NS : (mapsRowed Tryz.prog) = true := by kernel_rfl
theorem NU : ((Tryz.prog.stops == [])) = true := by kernel_rfl
theorem Ny : ((Tryz.prog.stopKnobs == [])) = true := by kernel_rfl
theorem F4 : (Tryz.prog.stopsHeard) = true := by kernel_rfl
theorem FP : (Tryz.prog.mayEnter) = true := by kernel_rfl
end Go.Proofs.YtiiaccpcoclklaaGreat
