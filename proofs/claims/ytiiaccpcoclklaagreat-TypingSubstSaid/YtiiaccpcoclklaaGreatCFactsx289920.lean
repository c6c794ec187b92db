/-
  Closed facts of the program, each by the kernel. Conditions: none.
-/
import Derived.Test.YtiiaccpcoclklaaGreatRows
import Derived.JoinedOf
import Derived.KernelRfl
set_option linter.unusedSimpArgs false
set_option linter.unusedVariables false
namespace Go.Proofs.YtiiaccpcoclklaaGreat
open Go Go.Proofs
theorem aJ {a b : Bool} (h : a = true) (k : b = true) : (a && b) = true := by rw [h, k]; rfl
theorem MG : (laidOutB Tryz.prog) = true := by kernel_rfl
theorem NI : (mapsRowed Tryz.prog) = true := by kernel_rfl
theorem Mq : ((Tryz.prog.stops == [])) = true := by kernel_rfl
theorem Oz : ((Tryz.prog.stopKnobs == [])) = true := by kernel_rfl
theorem E8 : (Tryz.prog.stopsHeard) = true := by kernel_rfl
theorem Fw : (Tryz.prog.mayEnter) = true := by kernel_rfl
end Go.Proofs.YtiiaccpcoclklaaGreat
